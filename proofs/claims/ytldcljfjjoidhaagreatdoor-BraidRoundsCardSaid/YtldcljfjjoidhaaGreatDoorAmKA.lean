/- The abstract machine: its values,its state,and what each operation does (definitions alone). -/
import Derived.CallsIn
import Derived.RangeFuncLeaves
import Derived.Laws.AppendOwn
set_option linter.all false
namespace Go.Am
open Go
inductive LK where
 | nil | full | eU | own (id:Nat) | bk (id j:Nat)
inductive AV where
 | bool (b:Bool)
 | int (k:IntKind) (n:Int)
 | str (s:List UInt8)
 | agg (cs:List AV)
 | bi (vs:List AV)
 | ir
 | ptr (id off:Nat)
 | ep (cs:List AV)
 | list (k:LK) (sz:Nat) (es:List AV)
 | jO (id off sz len cap:Nat)
 | dH (id f off sz len:Nat)
 | gp (id f i off sz:Nat) (t:TypeId)
 | j9
 | map (id:Nat)
 | cE
 | fn (f:FuncId) (first cap:List AV)
 | yield (id:Nat)
 | nQ
 | iface (t:TypeId) (v:AV)
def LK.closed:LK→Bool
 | .own _=>false
 | .bk _ _=>false
 | _=>true
mutual
def AV.closed:AV→Bool
 | .agg cs=>aH cs
 | .bi cs=>aH cs
 | .ep cs=>aH cs
 | .list k _ _=>k.closed
 | .fn _ x y=>aH x&&aH y
 | .iface _ v=>v.closed
 | .ptr _ _=>false
 | .jO _ _ _ _ _=>false
 | .dH _ _ _ _ _=>false
 | .gp _ _ _ _ _ _=>false
 | .map _=>false
 | .yield _=>false
 | _=>true
def aH:List AV→Bool
 | []=>true
 | a :: l=>a.closed&&aH l
end
mutual
def AV.gD:AV→AV
 | .agg cs=>.agg (kW cs)
 | .bi cs=>.bi (kW cs)
 | .list (.own _) sz es=>.list .eU sz es
 | .list (.bk _ _) sz es=>.list .eU sz es
 | v=>v
def kW:List AV→List AV
 | []=>[]
 | a :: l=>a.gD :: kW l
end
inductive SV where
 | none
 | v (a:AV)
 | lp (key off:Nat)
inductive Ent where
 | put (d:Nat) (x:SV)
 | kill (d:Nat)
abbrev bj:=List Ent
abbrev cJ:=List (Nat × List AV)
def lk:bj→Nat→SV
 | [],_=>.none
 | .put d x :: l,t=>bif Nat.beq d t then x else lk l t
 | .kill d :: l,t=>match lk l t with
  | .lp k off=>bif Nat.beq k d then .none else .lp k off
  | x=>x
def dv:cJ→Nat→Option (List AV)
 | [],_=>none
 | (d,cs) :: l,k=>bif Nat.beq d k then some cs else dv l k
inductive GO where
 | dead
 | row (cs:List AV) (el:TypeId)
 | tok (f sz:Nat) (e:TypeId)
 | bk (fs:List Nat) (sz:Nat) (e:TypeId)
 | nK (qt n:Nat) (left:List Nat) (cur:Option Nat) (t:TypeId)
 | dc (es:List AV) (sz:Nat) (el:TypeId)
 | map (es:List (AV × AV))
 | gu (s:List UInt8) (pos:Nat)
 | loop (busy:Bool) (pending:Option Code) (fn:FuncId) (ah:bj) (n:Nat) (params:List Tmp) (assign body:Code) (defers:Nat) (done:Bool)
 | defers (open_:Bool)
structure St where
 ah:bj
 boxes:cJ
 G:List GO
 marks:List Nat
 ro:Option Nat
 n:Nat
def nth {α:Type}:List α→Nat→Option α
 | [],_=>none
 | a :: _,0=>some a
 | _ :: l,n+1=>nth l n
def aB {α:Type}:List α→Nat→α→List α
 | [],_,_=>[]
 | _ :: l,0,x=>x :: l
 | a :: l,n+1,x=>a :: aB l n x
def takeN {α:Type}:Nat→List α→Option (List α)
 | 0,_=>some []
 | _+1,[]=>none
 | n+1,a :: l=>match takeN n l with
  | some r=>some (a :: r)
  | none=>none
def ft {α:Type}:Nat→List α→List α
 | 0,l=>l
 | _+1,[]=>[]
 | n+1,_ :: l=>ft n l
def FO {α:Type} (off n:Nat) (l:List α):Option (List α):=takeN n (ft off l)
def bg {α:Type}:List α→Nat→List α→List α
 | l,_,[]=>l
 | [],_,_ :: _=>[]
 | _ :: l,0,y :: ys=>y :: bg l 0 ys
 | a :: l,n+1,y :: ys=>a :: bg l n (y :: ys)
def AV.cells:AV→List AV
 | .agg cs=>cs
 | v=>[v]
def AV.one:AV→Bool
 | .agg _=>false
 | .bi _=>false
 | _=>true
def q9:Value→Option AV
 | .bool b=>some (.bool b)
 | .int k n=>some (.int k n)
 | .string s=>some (.str s.data.toList)
 | .slice none 0 0=>some (.list .nil 0 [])
 | .pointer none=>some .ir
 | .map none=>some .j9
 | .nilFunc=>some .cE
 | .nilIface=>some .nQ
 | _=>none
def lV:List Value→Option (List AV)
 | []=>some []
 | v :: vs=>match q9 v,lV vs with
  | some a,some l=>some (a :: l)
  | _,_=>none
def ra:Value→Option AV
 | .agg cs=>match lV cs.toList with
  | some l=>some (.agg l)
  | none=>none
 | .tuple cs=>match lV cs.toList with
  | some l=>some (.bi l)
  | none=>none
 | v=>q9 v
inductive TK where
 | sc
 | int (k:IntKind)
 | str
 | st (fs:List (Nat × Nat × Bool))
 | arr (len esz:Nat) (aa3:Bool)
 | sl (elem esz:Nat) (aa3:Bool) (bF:Nat) (Xe:Option AV)
 | map (key elem:TypeId) (Xe:Option AV)
mutual
inductive EK where
 | no
 | bool
 | int
 | str
 | st (fs:S2)
inductive S2 where
 | nil
 | cons (off sz:Nat) (ag:Bool) (k:EK) (rest:S2)
end
structure TI where
 k:TK
 size:Nat
 agg:Bool
 zero:Option AV
 ek:EK
def jx:TypeDesc→Bool
 | .struct _=>true
 | .array _ _=>true
 | _=>false
def fieldsOf (P:Program):List Field→Option (List (Nat × Nat × Bool))
 | []=>some []
 | f :: fs=>match P.info? f.type,P.underlying f.type,fieldsOf P fs with
  | some i,some u,some l=>some ((f.offset,i.size,jx u) :: l)
  | _,_,_=>none
def fU (i:TypeInfo):Option AV:=match i.zero with
 | some z=>ra z
 | none=>none
def pQ (P:Program):TypeDesc→Option TK
 | .int k=>some (.int k)
 | .string=>some .str
 | .struct fs=>match fieldsOf P fs.toList with
  | some l=>some (.st l)
  | none=>none
 | .array n e=>match P.info? e,P.underlying e with
  | some i,some u=>some (.arr n i.size (jx u))
  | _,_=>none
 | .slice e=>match P.info? e,P.underlying e with
  | some i,some u=>some (.sl e i.size (jx u) i.bytes (fU i))
  | _,_=>none
 | .map k e=>match P.info? e with
  | some i=>some (.map k e (fU i))
  | none=>none
 | _=>some .sc
def DQ (P:Program) (ek:TypeId→EK):List Field→Option S2
 | []=>some .nil
 | f :: fs => if f.name == "_" then none else match P.info? f.type, P.underlying f.type, DQ P ek fs with
  | some i,some u,some l=>some (.cons f.offset i.size (jx u) (ek f.type) l)
  | _,_,_=>none
def vq (sz:Nat) (ag:Bool) (k:EK):Nat→Nat→S2
 | 0,_=>.nil
 | n+1,i=>.cons (i * sz) sz ag k (vq sz ag k n (i+1))
def pR (P:Program):Nat→TypeId→EK
 | 0,_=>.no
 | n+1,t=>match P.underlying t with
  | some .bool=>.bool
  | some (.int _)=>.int
  | some .string=>.str
  | some (.struct fs)=>if P.stoodInHeld t then .no else match DQ P (pR P n) fs.toList with
   | some l=>.st l
   | none=>.no
  | some (.array m e)=>match P.info? e,P.underlying e with
   | some i,some u=>.st (vq i.size (jx u) (pR P n e) m 0)
   | _,_=>.no
  | _=>.no
def tH (P:Program) (t:TypeId):EK:=match pR P 6 t with
 | .st l=>if P.eqGuardType P.depth t then .no else .st l
 | k=>k
def Hb (P:Program) (t:TypeId):Option TI:=
 match P.info? t,P.underlying t with
 | some i,some u=>match pQ P u with
  | some k=>some { k:=k,size:=i.size,agg:=jx u,zero:=fU i,ek:=tH P t }
  | none=>none
 | _,_=>none
def FP:AV→AV→Bool
 | .bool a,.bool b=>a == b
 | .int k a,.int k' b=>(k == k')&&a == b
 | .str a,.str b=>a == b
 | .ir,.ir=>true
 | .ptr i o,.ptr i' o'=>Nat.beq i i'&&Nat.beq o o'
 | .j9,.j9=>true
 | .map i,.map i'=>Nat.beq i i'
 | .cE,.cE=>true
 | .nQ,.nQ=>true
 | .jO a b c d e,.jO a' b' c' d' e'=>Nat.beq a a'&&Nat.beq b b'&&Nat.beq c c'&&Nat.beq d d'&&Nat.beq e e'
 | .dH a b c d e,.dH a' b' c' d' e'=>Nat.beq a a'&&Nat.beq c c'&&Nat.beq d d'&&(Nat.beq b b'&&Nat.beq e e')
 | .gp a b c d e t,.gp a' b' c' d' e' t'=>Nat.beq a a'&&Nat.beq b b'&&Nat.beq c c'&&Nat.beq d d'&&Nat.beq e e'&&Nat.beq t t'
 | _,_=>false
mutual
def dX:AV→AV→Bool
 | .fn f x y,.fn f' x' y'=>Nat.beq f f'&&hU x x'&&hU y y'
 | .agg cs,.agg cs'=>hU cs cs'
 | .ep cs,.ep cs'=>hU cs cs'
 | .bi cs,.bi cs'=>hU cs cs'
 | .list .nil a es,.list .nil a' es'=>Nat.beq a a'&&hU es es'
 | .list .full a es,.list .full a' es'=>Nat.beq a a'&&hU es es'
 | .list .eU a es,.list .eU a' es'=>Nat.beq a a'&&hU es es'
 | .list (.own i) a es,.list (.own i') a' es'=>Nat.beq i i'&&Nat.beq a a'&&hU es es'
 | .list (.bk i j) a es,.list (.bk i' j') a' es'=>Nat.beq i i'&&Nat.beq j j'&&Nat.beq a a'&&hU es es'
 | a,b=>FP a b
def hU:List AV→List AV→Bool
 | [],[]=>true
 | a :: l,b :: r=>dX a b&&hU l r
 | _,_=>false
end
mutual
inductive aT
 | int (k:IntKind)
 | bool
 | str
 | agg (ps:aP)
 | bi (ps:aP)
 | list (sz:Nat) (p:aT)
 | own (id sz:Nat) (p:aT)
 | bk (id sz:Nat) (p:aT)
 | gC (v:AV)
 | two (u v:AV)
inductive aP
 | nil
 | cons (p:aT) (ps:aP)
end
def Xf (s:Bool) (α β:Type):Type:=match s with
 | true=>α
 | false=>α × β
def aP.isNil:aP→Bool
 | .nil=>true
 | .cons _ _=>false
mutual
def aT.T:aT→Type
 | .int _=>Int
 | .bool=>Bool
 | .str=>List UInt8
 | .agg ps=>ps.T
 | .bi ps=>ps.T
 | .list _ p=>List p.T
 | .own _ _ p=>List p.T
 | .bk _ _ p=>Nat × List p.T
 | .gC _=>Unit
 | .two _ _=>Bool
def aP.T:aP→Type
 | .nil=>Unit
 | .cons p ps=>Xf ps.isNil p.T ps.T
end
mutual
def aT.enc:(p:aT)→p.T→AV
 | .int k,(n:Int)=>.int k n
 | .bool,(b:Bool)=>.bool b
 | .str,(s:List UInt8)=>.str s
 | .agg ps,x=>.agg (ps.enc x)
 | .bi ps,x=>.bi (ps.enc x)
 | .list sz p,(xs:List p.T)=>.list .eU sz (xs.map p.enc)
 | .own id sz p,(xs:List p.T)=>.list (.own id) sz (xs.map p.enc)
 | .bk id sz p,(x:Nat × List p.T)=>.list (.bk id x.1) sz (x.2.map p.enc)
 | .gC v,_=>v
 | .two u v,(b:Bool)=>bif b then v else u
def aP.enc:(ps:aP)→ps.T→List AV
 | .nil,_=>[]
 | .cons p .nil,x=>[p.enc x]
 | .cons p (.cons q ps),x=>p.enc x.1 :: (aP.cons q ps).enc x.2
end
def S3:IntKind→IntKind→Bool:=fun a b=>decide (a=b)
def AV.jx:AV→List AV
 | .agg cs=>cs
 | _=>[]
def AV.S4:AV→List AV
 | .bi cs=>cs
 | _=>[]
def AV.dR:AV→List AV
 | .list _ _ es=>es
 | _=>[]
def AV.aa4:AV→Nat
 | .list (.bk _ j) _ _=>j
 | _=>0
def AV.kR:AV→Int
 | .int _ n=>n
 | _=>0
def AV.Xg:AV→Bool
 | .bool b=>b
 | _=>false
def AV.S5:AV→List UInt8
 | .str s=>s
 | _=>[]
def ee:List AV→AV
 | a :: _=>a
 | []=>.ir
def IY:List AV→List AV
 | _ :: l=>l
 | []=>[]
mutual
def aT.bw:(p:aT)→AV→p.T
 | .int _,v=>v.kR
 | .bool,v=>v.Xg
 | .str,v=>v.S5
 | .agg ps,v=>ps.bw v.jx
 | .bi ps,v=>ps.bw v.S4
 | .list _ p,v=>v.dR.map p.bw
 | .own _ _ p,v=>v.dR.map p.bw
 | .bk _ _ p,v=>(v.aa4,v.dR.map p.bw)
 | .gC _,_=>()
 | .two _ v,a=>dX a v
def aP.bw:(ps:aP)→List AV→ps.T
 | .nil,_=>()
 | .cons p .nil,l=>p.bw (ee l)
 | .cons p (.cons q ps),l=>(p.bw (ee l),(aP.cons q ps).bw (IY l))
end
def allFit (f:AV→Bool):List AV→Bool
 | []=>true
 | a :: l=>f a&&allFit f l
mutual
def aT.fits:aT→AV→Bool
 | .int k,v=>match v with
  | .int k' _=>S3 k k'
  | _=>false
 | .bool,v=>match v with
  | .bool _=>true
  | _=>false
 | .str,v=>match v with
  | .str _=>true
  | _=>false
 | .agg ps,v=>match v with
  | .agg cs=>ps.fits cs
  | _=>false
 | .bi ps,v=>match v with
  | .bi cs=>ps.fits cs
  | _=>false
 | .list sz p,v=>match v with
  | .list _ bN es=>(Nat.beq sz bN || es.isEmpty)&&allFit p.fits es
  | _=>false
 | .own id sz p,v=>match v with
  | .list (.own jw) bN es=>(Nat.beq id jw&&Nat.beq sz bN)&&allFit p.fits es
  | _=>false
 | .bk id sz p,v=>match v with
  | .list (.bk jw _) bN es=>(Nat.beq id jw&&Nat.beq sz bN)&&allFit p.fits es
  | _=>false
 | .gC v,u=>dX u v
 | .two u v,a=>dX a u || dX a v
def aP.fits:aP→List AV→Bool
 | .nil,l=>l.isEmpty
 | .cons p ps,l=>match l with
  | a :: l=>p.fits a&&ps.fits l
  | []=>false
end
def aT.dec (p:aT) (v:AV):Option p.T:=bif p.fits v then some (p.bw v) else none
def aP.dec (ps:aP) (l:List AV):Option ps.T:=bif ps.fits l then some (ps.bw l) else none
structure Env where
 P:Program
 ti:TypeId→Option TI
 cb:Nat→Option (List AV)
 yy:FuncId→Tmp→Bool
 Nk:TypeId→Option aT
 lo:Nat:=0
 gho:FuncId→Tmp→List (Option Nat × Nat × TypeId):=fun _ _=>[]
 Z9:TypeId→Option aT:=fun _=>none
 gx:Nat→Bool:=fun _=>false
 Hc:∀ t i,ti t=some i→Hb P t=some i
 mixed:P.follows .mixedOrders=true
 nX:∀ g cs,cb g=some cs→aH cs=true
def bI (E:Env) (ah:bj):Operand→SV
 | .tmp t=>lk ah t
 | .const v=>match ra v with
  | some a=>.v a
  | none=>.none
 | .global g=>match E.cb g with
  | some cs=>.v (.ep cs)
  | none=>.none
 | .func f=>.v (.fn f [] [])
def St.put (s:St) (dst:Option Tmp) (x:SV):St:=match dst with
 | some d=>match Nat.blt d s.n with
  | true=>⟨.put d x :: s.ah,s.boxes,s.G,s.marks,s.ro,s.n⟩
  | false=>s
 | none=>s
def fE:AV:=.bi []
def sJ (agg:Bool) (cs:List AV):Option AV:=
 if agg then some (.agg cs) else match cs with
  | [c]=>some c
  | _=>none
def mI (s:St):SV→Option (List AV × Nat)
 | .lp k off=>match dv s.boxes k with
  | some cs=>some (cs,off)
  | none=>none
 | .v (.ptr id off)=>match nth s.G id with
  | some (.row cs _)=>some (cs,off)
  | _=>none
 | .v (.ep cs)=>some (cs,0)
 | _=>none
def zb (n:Nat):SV→Option SV
 | .lp k off=>some (.lp k (off+n))
 | .v (.ptr id off)=>some (.v (.ptr id (off+n)))
 | .v (.ep cs)=>some (.v (.ep (ft n cs)))
 | .v (.gp id f i off sz t)=>some (.v (.gp id f i (off+n) sz t))
 | _=>none
def Ao (t:Bool):AV→AV→AV
 | .bool x,.bool y=>.bool (bif t then x else y)
 | .int k x,.int k' y=>if k=k' then .int k (bif t then x else y) else (bif t then .int k x else .int k' y)
 | a,b=>bif t then a else b
def FQ (ag:Bool) (off sz:Nat) (cs:List AV):Option AV:=
 if ag then (match FO off sz cs with | some l=>sJ true l | none=>none) else (match FO off 1 cs with | some l=>sJ false l | none=>none)
mutual
def kS:EK→AV→AV→Option Bool
 | .bool,.bool a,.bool b=>some (a == b)
 | .int,.int k a,.int k' b=>if k=k' then some (a == b) else none
 | .str,.str a,.str b=>some (a == b)
 | .st fs,.agg xs,.agg ys=>sK fs xs ys
 | _,_,_=>none
def sK:S2→List AV→List AV→Option Bool
 | .nil,_,_=>some true
 | .cons off sz ag k rest,xs,ys=>match FQ ag off sz xs,FQ ag off sz ys with
  | some a,some b=>match kS k a b,sK rest xs ys with
   | some t,some u=>some (t&&u)
   | _,_=>none
  | _,_=>none
end
def Hd (k:IntKind) (a b:Int):Int:=k.wrap (BitVec.ofInt k.bits a &&& BitVec.ofInt k.bits b).toNat
def orI (k:IntKind) (a b:Int):Int:=k.wrap (BitVec.ofInt k.bits a ||| BitVec.ofInt k.bits b).toNat
def He (k:IntKind) (a b:Int):Int:=k.wrap (BitVec.ofInt k.bits a ^^^ BitVec.ofInt k.bits b).toNat
def BS (op:BinOp) (x y:AV):Option (Bool × AV):=
 match x,y with
 | .int k a,.int k' b=>
  match op with
  | .shl=>some (decide (0≤b),.int k (k.wrap (a * 2 ^ (min b.toNat k.bits))))
  | .shr=>some (decide (0≤b),.int k (a.fdiv (2 ^ (min b.toNat k.bits))))
  | _=>if k=k' then
    match op with
    | .add=>some (true,.int k (k.wrap (a+b)))
    | .sub=>some (true,.int k (k.wrap (a - b)))
    | .mul=>some (true,.int k (k.wrap (a * b)))
    | .quo=>some (!(decide (b=0)),.int k (k.wrap (a.tdiv b)))
    | .rem=>some (!(decide (b=0)),.int k (a.tmod b))
    | .and=>some (true,.int k (Hd k a b))
    | .or=>some (true,.int k (orI k a b))
    | .xor=>some (true,.int k (He k a b))
    | .eql=>some (true,.bool (a == b))
    | .neq=>some (true,.bool (a != b))
    | .lss=>some (true,.bool (a < b))
    | .leq=>some (true,.bool (a≤b))
    | .gtr=>some (true,.bool (a > b))
    | .geq=>some (true,.bool (a≥b))
    | _=>none
   else none
 | .str a,.str b=>
  match op with
  | .add=>some (decide (a.length+b.length≤9223372036854775807),.str (a++b))
  | .eql=>some (true,.bool (a == b))
  | .neq=>some (true,.bool (!(a == b)))
  | .lss=>some (true,.bool (Op.bytesLess a b))
  | .leq=>some (true,.bool (Op.bytesLess a b || a == b))
  | .gtr=>some (true,.bool (!(Op.bytesLess a b || a == b)))
  | .geq=>some (true,.bool (!(Op.bytesLess a b)))
  | _=>none
 | _,_=>none
end Go.Am
namespace Go.Am
open Go
def St.kill (s:St) (d:Nat):St:=⟨.kill d :: s.ah,s.boxes,s.G,s.marks,s.ro,s.n⟩
def AV.aX:AV→Bool
 | .bi _=>false
 | _=>true
def St.dN (s:St) (o:GO):St:=⟨s.ah,s.boxes,s.G++[o],s.marks,s.ro,s.n⟩
def St.b9 (s:St) (G:List GO):St:=⟨s.ah,s.boxes,G,s.marks,s.ro,s.n⟩
def St.uD (s:St) (d:Nat) (cs:List AV):St:=⟨s.ah,(d,cs) :: s.boxes,s.G,s.marks,s.ro,s.n⟩
def eV (E:Env) (f:FuncId) (s:St) (dst:Option Tmp) (el:TypeId) (cs:List AV):Option (Bool × St):=
 match dst with
 | none=>none
 | some d=>
  if E.yy f d then some (true,(s.dN (.row cs el)).put (some d) (.v (.ptr s.G.length 0)))
  else match Nat.blt d s.n with
   | true=>some (true,((s.kill d).uD d cs).put (some d) (.lp d 0))
   | false=>none
def lS (E:Env) (ah:bj):List Operand→Option (List AV)
 | []=>some []
 | x :: l=>match bI E ah x,lS E ah l with
  | .v a,some r=>some (a :: r)
  | _,_=>none
def MY (E:Env) (ah:bj):List (Nat × Operand)→Option (List (Nat × AV))
 | []=>some []
 | (i,x) :: l=>match bI E ah x,MY E ah l with
  | .v a,some r=>some ((i,a) :: r)
  | _,_=>none
def placeOf:TK→Nat→Option (Nat × Nat)
 | .st fs,j=>match nth fs j with
  | some (o,sz,_)=>some (o,sz)
  | none=>none
 | .arr _ esz _,j=>some (j * esz,esz)
 | _,_=>none
def tJ (place:Nat→Option (Nat × Nat)) (cells:List AV):List (Nat × AV)→Option (List AV)
 | []=>some cells
 | (i,v) :: rest=>match place i with
  | none=>none
  | some (off,sz)=>
   if v.aX&&Nat.beq v.cells.length sz&&Nat.ble (off+sz) cells.length then tJ place (bg cells off v.cells) rest else none
def BT (esz:Nat) (es:List AV):List (Nat × AV)→Option (List AV)
 | []=>some es
 | (i,v) :: rest=>
  if v.aX&&Nat.beq v.cells.length esz&&Nat.ble (i+1) es.length&&v.closed then BT esz (aB es i v) rest else none
def mJ (E:Env) (s:St) (t:TypeId) (parts:List (Nat × Operand)):Option AV:=
 match E.ti t,MY E s.ah parts with
 | some i,some ps=>match i.zero with
  | some z=>match tJ (placeOf i.k) z.cells ps with
   | some cs=>if i.agg&&z.aX then some (.agg cs) else none
   | none=>none
  | none=>none
 | _,_=>none
def zd:List (Nat × AV)→List (Nat × AV)
 | []=>[]
 | (i,v) :: l=>(i,v.gD) :: zd l
def ca (E:Env) (s:St) (t:TypeId) (len:Nat) (parts:List (Nat × Operand)):Option AV:=
 match E.ti t,MY E s.ah parts with
 | some i,some ps=>match i.k with
  | .sl _ esz _ _ (some z)=>
    if Nat.beq z.cells.length esz&&Nat.ble 1 esz&&Nat.ble (len * esz) 16777216&&z.aX&&z.closed then
     match BT esz (List.replicate len z) (zd ps) with
     | some es=>some (.list .full esz es)
     | none=>none
    else none
  | _=>none
 | _,_=>none
def rb (E:Env) (s:St) (t:TypeId) (p:SV):Option AV:=
 match E.ti t,mI s p with
 | some i,some (cs,off)=>match FO off i.size cs with
  | some l=>sJ i.agg l
  | none=>none
 | _,_=>none
def jy (E:Env) (s:St) (t:TypeId) (p x:SV):Option St:=
 match E.ti t,x with
 | some i,.v v=>
  if v.aX&&Nat.beq v.cells.length i.size then
   match p with
   | .lp k off=>match dv s.boxes k with
    | some cs=>if Nat.ble (off+v.cells.length) cs.length then some (s.uD k (bg cs off v.cells)) else none
    | none=>none
   | .v (.ptr id off)=>match nth s.G id with
    | some (.row cs el)=>if Nat.ble (off+v.cells.length) cs.length then some (s.b9 (aB s.G id (.row (bg cs off v.cells) el))) else none
    | _=>none
   | _=>none
  else none
 | _,_=>none
def af (es:List AV) (n:Nat):AV:=match nth es n with
 | some e=>e
 | none=>fE
def jd:List GO→Nat→TypeId→Nat→Option Nat
 | [],_,_,_=>none
 | .bk _ sz e :: G,bN,e',i=>match jd G bN e' (i+1) with
  | some j=>some j
  | none=>bif Nat.beq sz bN&&Nat.beq e e' then some i else none
 | _ :: G,bN,e',i=>jd G bN e' (i+1)
def aT.fin (G:List GO):aT→aT
 | .bk e sz p=>match jd G sz e 0 with
  | some id=>.bk id sz p
  | none=>.bk e sz p
 | .agg ps=>.agg (Xh ps)
 | p=>p
where
 Xh:aP→aP
  | .nil=>.nil
  | .cons p ps=>.cons (match p with
   | .bk e sz q=>match jd G sz e 0 with
    | some id=>.bk id sz q
    | none=>.bk e sz q
   | p=>p) (Xh ps)
def RN (E:Env) (G:List GO) (t:TypeId):Option aT:=match E.Z9 t with
 | some p=>some (p.fin G)
 | none=>E.Nk t
def vr (E:Env) (s:St) (id f i sz:Nat) (t:TypeId):Option (Bool × AV):=match nth s.G id with
 | some (.dc es bN _)=>match RN E s.G t with
  | some p=>if Nat.beq sz bN then some (decide (f=es.length)&&decide (i < es.length)&&p.fits (af es i),p.enc (p.bw (af es i))) else none
  | none=>if Nat.beq sz bN then some (decide (f=es.length)&&decide (i < es.length),af es i) else none
 | _=>none
def ze (E:Env) (s:St) (t:TypeId) (p:SV):Option (Bool × AV):=match p with
 | .v (.gp id f i off sz ty)=>match E.ti t,vr E s id f i sz ty with
  | some ti,some (c,v)=>match FO off ti.size v.cells with
   | some l=>match sJ ti.agg l with
    | some r=>some (c,r)
    | none=>none
   | none=>none
  | _,_=>none
 | p=>match rb E s t p with
  | some v=>some (true,v)
  | none=>none
def jz (E:Env) (s:St) (t:TypeId) (p x:SV):Option (Bool × St):=match p with
 | .v (.gp id f i off sz ty)=>match E.ti t,x,nth s.G id with
  | some ti,.v x,some (.dc es bN el)=>
   if x.aX&&Nat.beq x.cells.length ti.size&&Nat.beq sz bN then
    if Nat.beq off 0&&Nat.beq ti.size sz then some (decide (f=es.length)&&decide (i < es.length),s.b9 (aB s.G id (.dc (aB es i x) bN el)))
    else match vr E s id f i sz ty with
     | some (c,.agg cs)=>if Nat.ble (off+ti.size) cs.length&&Nat.beq cs.length sz then some (c,s.b9 (aB s.G id (.dc (aB es i (.agg (bg cs off x.cells))) bN el))) else none
     | _=>none
   else none
  | _,_,_=>none
 | p=>match jy E s t p x with
  | some s'=>some (true,s')
  | none=>none
def ka (E:Env) (t:TypeId) (x ix:SV):Option (Bool × SV):=
 match E.ti t,ix with
 | some i,.v (.int _ n)=>match i.k,x with
  | .sl _ esz _ _ _,.v (.list _ sz es)=>if Nat.beq sz esz || es.isEmpty then
    match E.Nk t with
    | some p=>some (decide (0≤n∧n < es.length)&&p.fits (af es n.toNat),.v (.ep (p.enc (p.bw (af es n.toNat))).cells))
    | none=>some (decide (0≤n∧n < es.length),.v (.ep (af es n.toNat).cells))
   else none
  | .sl _ esz _ _ _,.v (.jO id off sz len _)=>if Nat.beq sz esz then some (decide (0≤n∧n < len),.v (.ptr id (off+n.toNat * sz))) else none
  | .sl _ esz _ _ _,.v (.dH id f off sz len)=>if Nat.beq sz esz then some (decide (0≤n∧n < len),.v (.gp id f (off+n.toNat) 0 sz t)) else none
  | .arr len esz _,.v (.ep cs)=>match E.Nk t with
   | some p=>if Nat.beq esz 1&&Nat.ble len cs.length then some (decide (0≤n∧n < len)&&p.fits (af cs n.toNat),.v (.ep [p.enc (p.bw (af cs n.toNat))])) else none
   | none=>some (decide (0≤n∧n < len),.v (.ep (ft (n.toNat * esz) cs)))
  | .arr len esz _,p=>match zb (n.toNat * esz) p with
   | some q=>some (decide (0≤n∧n < len),q)
   | none=>none
  | _,_=>none
 | _,_=>none
def kb (E:Env) (t:TypeId) (x:SV) (j:Nat):Option SV:=
 match E.ti t with
 | some i=>match i.k with
  | .st fs=>match nth fs j with
   | some (o,sz,_)=>if Nat.ble 1 sz then zb o x else none
   | none=>none
  | _=>none
 | none=>none
def DR (E:Env) (t:TypeId) (x:SV) (j:Nat):Option AV:=
 match E.ti t,x with
 | some i,.v (.agg cs)=>match i.k with
  | .st fs=>match nth fs j with
   | some (o,sz,ag)=>if ag then (match FO o sz cs with | some l=>sJ true l | none=>none) else (match FO o 1 cs with | some l=>sJ false l | none=>none)
   | none=>none
  | _=>none
 | _,_=>none
def DS (E:Env) (t:TypeId) (x ix:SV):Option (Bool × AV):=
 match E.ti t,x,ix with
 | some i,.v (.str l),.v (.int _ n)=>match i.k with
  | .str=>some (decide (0≤n∧n < l.length),.int .u8 (l.getD n.toNat 0).toNat)
  | _=>none
 | some i,.v (.agg cs),.v (.int _ n)=>match i.k with
  | .arr len esz ag=>match (if ag then (match FO (n.toNat * esz) esz cs with | some l=>sJ true l | none=>none) else (match FO (n.toNat * esz) 1 cs with | some l=>sJ false l | none=>none)) with
   | some v=>some (decide (0≤n∧n < len),v)
   | none=>none
  | _=>none
 | _,_,_=>none
def Ap (y:Nat):SV→Option (Bool × Nat)
 | .v (.int _ n)=>some (decide (0≤n∧n≤y),n.toNat)
 | _=>none
def eF {α:Type} (lo hi:Nat) (l:List α):List α:=(l.take hi).drop lo
def mK (E:Env) (ah:bj):Option Operand→Option (Option SV)
 | none=>some none
 | some x=>some (some (bI E ah x))
def DU (len:Nat) (lo hi:Option SV):Option (Bool × Nat × Nat):=
 match (match hi with | none=>some (true,len) | some h=>Ap len h) with
 | none=>none
 | some (c1,h)=>match (match lo with | none=>some (true,0) | some l=>Ap h l) with
  | none=>none
  | some (c2,l)=>some (c1&&c2,l,h)
def Xi (agg:Bool) (l:List AV):AV:=match agg with
 | true=>.agg l
 | false=>ee l
def gV (agg:Bool) (sz:Nat):Nat→List AV→List AV
 | 0,_=>[]
 | n+1,cs=>Xi agg (cs.take sz) :: gV agg sz n (cs.drop sz)
def DV (ag:Bool) (e:AV):Bool:=e.aX&&(ag || e.one)&&e.closed
def Aq (E:Env) (t:TypeId) (x:SV) (lo hi:Option SV) (mx:Option Operand):Option (Bool × AV):=
 match E.ti t,mx with
 | some i,none=>match i.k,x with
  | .str,.v (.str l)=>match DU l.length lo hi with
   | some (c,a,b)=>some (c,.str (eF a b l))
   | none=>none
  | .sl _ esz _ _ _,.v (.list k sz es)=>
   if Nat.beq sz esz || es.isEmpty then
    match DU es.length lo hi with
    | some (c,a,b)=>some (c,.list (match k with | .nil=>.nil | .full=>(match hi with | none=>.full | some _=>.eU) | _=>.eU) esz (eF a b es))
    | none=>none
   else none
  | .sl _ esz _ _ _,.v (.jO id off sz len cap)=>
   if Nat.beq sz esz then
    match DU len lo hi with
    | some (c,a,b)=>some (c,.jO id (bif Nat.beq cap a then off else off+a * sz) sz (b - a) (cap - a))
    | none=>none
   else none
  | .sl _ esz _ _ _,.v (.dH id f off sz len)=>
   if Nat.beq sz esz then
    match DU len lo hi with
    | some (c,a,b)=>some (c,.dH id f (off+a) sz (b - a))
    | none=>none
   else none
  | .arr len esz ag,.v (.ep cs)=>match lo,hi with
   | none,none=>if Nat.ble (len * esz) cs.length&&Nat.ble 1 esz&&(ag || Nat.beq esz 1)&&allFit (DV ag) (gV ag esz len cs) then some (true,.list .full esz (gV ag esz len cs)) else none
   | _,_=>none
  | _,_=>none
 | _,_=>none
def IZ (G:List GO) (id n:Nat) (f sz:Nat) (e:TypeId):List GO:=aB G id (.tok (f+n) sz e)
def Hf (fs:List Nat) (j n:Nat):List Nat:=bif Nat.beq j fs.length then fs++[n] else aB fs j n
def Nl (fs:List Nat) (j n:Nat):Bool:=decide (nth fs j=some n) || (Nat.beq j fs.length&&Nat.beq n 0)
def fV (G:List GO) (elem esz bF:Nat) (x:AV) (ys:List AV):Option (Bool × AV × List GO):=
 match x,ys with
 | .list k sz es,[]=>match k with
  | .nil=>some (true,.list .nil sz es,G)
  | k=>some (true,.list k sz es,G)
 | .list k sz es,y :: ys=>
  match k with
  | .nil=>some (decide ((es.length+(y :: ys).length) * bF≤140737488355328),.list (.own G.length) esz (es++(y :: ys)),G++[.tok (es.length+(y :: ys).length) esz elem])
  | .full=>if Nat.beq sz esz then some (decide ((es.length+(y :: ys).length) * bF≤140737488355328),.list (.own G.length) esz (es++(y :: ys)),G++[.tok (es.length+(y :: ys).length) esz elem]) else none
  | .own id=>match nth G id with
   | some (.tok f bN e')=>if Nat.beq bN esz&&Nat.beq e' elem&&Nat.beq sz esz then
     some (decide (f=es.length)&&decide ((es.length+(y :: ys).length) * bF≤140737488355328),.list (.own id) esz (es++(y :: ys)),IZ G id (y :: ys).length f esz elem) else none
   | _=>none
  | .bk id j=>match nth G id with
   | some (.bk fs bN e')=>if Nat.beq bN esz&&Nat.beq e' elem&&Nat.beq sz esz then
     some (Nl fs j es.length&&decide ((es.length+(y :: ys).length) * bF≤140737488355328),.list (.bk id j) esz (es++(y :: ys)),aB G id (.bk (Hf fs j (es.length+(y :: ys).length)) esz elem)) else none
   | _=>none
  | .eU=>none
 | .dH id f off sz len,[]=>some (true,.dH id f off sz len,G)
 | .dH id f off sz len,y :: ys=>match nth G id with
  | some (.dc es bN e')=>if Nat.beq bN esz&&Nat.beq e' elem&&Nat.beq sz esz then
    some (decide (f=es.length)&&decide (off=0)&&decide (len=f)&&decide ((es.length+(y :: ys).length) * bF≤140737488355328),.dH id (es.length+(y :: ys).length) 0 esz (es.length+(y :: ys).length),aB G id (.dc (es++(y :: ys)) esz elem)) else none
  | _=>none
 | _,_=>none
def rk (b:UInt8):AV:=.int .u8 b.toNat
def iu (es:List AV):List UInt8:=es.map fun a=>UInt8.ofNat a.kR.toNat
def vt (es:List AV):List UInt8:=es.flatMap fun a=>(Utf8.encode a.kR).data.toList
def Hg:AV→List AV→Option AV
 | x,[]=>some x
 | .int k x,.int k' y :: l=>if k=k' then Hg (.int k (if y > x then y else x)) l else none
 | _,_=>none
def DW:AV→List AV→Option AV
 | x,[]=>some x
 | .int k x,.int k' y :: l=>if k=k' then DW (.int k (if y < x then y else x)) l else none
 | .str x,.str y :: l=>DW (.str (bif Op.bytesLess x y || x == y then x else y)) l
 | _,_=>none
def ay:List AV→List AV
 | []=>[]
 | e :: es=>e.cells++ay es
def rm (s:St) (esz:Nat) (d x:AV):Option (Nat × List GO):=
 match d with
 | .jO id off sz len _=>match nth s.G id with
  | some (.row cs el)=>
   if Nat.beq sz esz then
    match x with
    | .list _ bN es=>if Nat.beq bN esz || es.isEmpty then
      let n:=Nat.min es.length len
      let l:=ay (es.take n)
      if Nat.ble (off+l.length) cs.length then some (n,aB s.G id (.row (bg cs off l) el)) else none
     else none
    | .str bs=>
      if Nat.beq esz 1&&Nat.ble (off+(bs.take (Nat.min bs.length len)).length) cs.length then some (Nat.min bs.length len,aB s.G id (.row (bg cs off ((bs.take (Nat.min bs.length len)).map rk)) el)) else none
    | .jO jw fF bN DX _=>match nth s.G jw with
     | some (.row cs' _)=>
      let n:=Nat.min DX len
      match FO fF (n * esz) cs' with
      | some l=>if Nat.beq bN esz&&Nat.ble (off+l.length) cs.length then some (n,aB s.G id (.row (bg cs off l) el)) else none
      | none=>none
     | _=>none
    | _=>none
   else none
  | _=>none
 | .dH id f off sz len=>match nth s.G id,x with
  | some (.dc es bN el),.list _ szx xs=>if Nat.beq sz esz&&Nat.beq bN sz&&(Nat.beq szx esz || xs.isEmpty)&&Nat.ble f es.length&&Nat.ble es.length f&&Nat.ble (off+Nat.min xs.length len) es.length then
    some (Nat.min xs.length len,aB s.G id (.dc (bg es off (xs.take (Nat.min xs.length len))) bN el)) else none
  | _,_=>none
 | _=>none
def bS (E:Env) (s:St) (dst:Option Tmp) (b:Builtin) (args:List AV) (tys:List TypeId):Option (Bool × St):=
 match b,args with
 | .len,[x]=>match tys with
  | t :: _=>match E.ti t with
   | some i=>match i.k,x with
    | .str,.str l=>some (true,s.put dst (.v (.int .i64 l.length)))
    | .sl ..,.list _ _ es=>some (true,s.put dst (.v (.int .i64 es.length)))
    | .sl ..,.jO _ _ _ len _=>some (true,s.put dst (.v (.int .i64 len)))
    | .sl ..,.dH _ _ _ _ len=>some (true,s.put dst (.v (.int .i64 len)))
    | .arr n _ _,_=>some (true,s.put dst (.v (.int .i64 n)))
    | .map ..,.j9=>some (true,s.put dst (.v (.int .i64 0)))
    | .map ..,.map id=>match nth s.G id with
     | some (.map es)=>some (true,s.put dst (.v (.int .i64 es.length)))
     | _=>none
    | _,_=>none
   | none=>none
  | _=>none
 | .append,[x,.list _ sz ys]=>match tys with
  | [t,u]=>match E.ti t with
   | some i=>match i.k with
    | .sl elem esz _ bF (some z)=>
     if (Nat.beq sz esz || ys.isEmpty)&&Nat.beq t u&&Nat.ble 1 esz&&Nat.ble 1 bF&&Nat.beq z.cells.length esz&&z.aX then
      match fV s.G elem esz bF x ys with
      | some (c,v,G')=>some (c,(s.b9 G').put dst (.v v))
      | none=>none
     else none
    | _=>none
   | none=>none
  | _=>none
 | .append,[x,.str bs]=>match tys with
  | [t,u]=>match E.ti t,E.ti u with
   | some i,some j=>match i.k,j.k with
    | .sl elem esz _ bF (some z),.str=>
     if Nat.beq esz 1&&Nat.ble 1 bF&&Nat.beq z.cells.length esz&&z.aX then
      match fV s.G elem esz bF x (bs.map rk) with
      | some (c,v,G')=>some (c,(s.b9 G').put dst (.v v))
      | none=>none
     else none
    | _,_=>none
   | _,_=>none
  | _=>none
 | .copy,[d,x]=>match tys with
  | t :: _=>match E.ti t with
   | some i=>match i.k with
    | .sl _ esz _ _ _=>match rm s esz d x with
     | some (n,G')=>some (true,(s.b9 G').put dst (.v (.int .i64 n)))
     | none=>none
    | _=>none
   | none=>none
  | _=>none
 | .clear,[x]=>match dst,tys,x with
  | none,[t],.dH id f off sz len=>match E.ti t,nth s.G id with
   | some i,some (.dc es bN el)=>match i.k with
    | .sl elem esz _ _ (some z)=>if Nat.beq sz esz&&Nat.beq bN sz&&Nat.beq el elem&&Nat.beq z.cells.length esz&&z.aX&&z.closed then
      some (decide (f=es.length)&&decide (off+len≤es.length),s.b9 (aB s.G id (.dc (bg es off (List.replicate len z)) bN el))) else none
    | _=>none
   | _,_=>none
  | _,_,_=>none
 | .max,x :: l=>match Hg x l with
  | some v=>some (true,s.put dst (.v v))
  | none=>none
 | .min,x :: l=>match DW x l with
  | some v=>some (true,s.put dst (.v v))
  | none=>none
 | _,_=>none
def EK.plain:EK→Bool
 | .bool | .int | .str=>true
 | .st _=>true
 | _=>false
def EK.wide:EK→Bool
 | .st _=>true
 | _=>false
def fW:AV→Bool
 | .bool _=>true
 | .int _ _=>true
 | .str _=>true
 | _=>false
def nY:AV→AV→Bool
 | .bool a,.bool b=>a == b
 | .int k a,.int l b=>decide (k=l)&&a == b
 | .str a,.str b=>a == b
 | _,_=>false
def lW:List AV→List AV→Bool
 | [],[]=>true
 | a :: l,b :: r=>nY a b&&lW l r
 | _,_=>false
def kX:AV→AV→Bool
 | .agg xs,.agg ys=>lW xs ys
 | _,_=>false
def DJ (e:EK) (a b:AV):Option Bool:=match kS e a b with
 | some true=>bif e.wide&&!kX a b then none else some true
 | r=>r
def iP (e:EK) (k:AV):List (AV × AV)→Option (Option AV)
 | []=>some none
 | (k',v) :: l=>match DJ e k k' with
  | some true=>some (some v)
  | some false=>iP e k l
  | none=>none
def sL (e:EK) (k v:AV):List (AV × AV)→Option (List (AV × AV))
 | []=>some [(k,v)]
 | (k',v') :: l=>match DJ e k k' with
  | some true=>some ((k,v) :: l)
  | some false=>match sL e k v l with
   | some r=>some ((k',v') :: r)
   | none=>none
  | none=>none
def iw:EK→AV→Bool
 | .bool,.bool _=>true
 | .int,.int _ _=>true
 | .str,.str _=>true
 | .st fs,.agg cs=>cs.all fW&&(sK fs cs cs).isSome
 | _,_=>false
def mapOf (s:St):SV→Option (List (AV × AV))
 | .v .j9=>some []
 | .v (.map id)=>match nth s.G id with
  | some (.map es)=>some es
  | _=>none
 | _=>none
def lz (G:List GO) (id:Nat):List Nat:=match nth G id with
 | some (.bk fs _ _)=>fs
 | _=>[]
def BU (E:Env) (G:List GO) (t:TypeId) (z:AV):AV:=match E.Z9 t,z with
 | some (.bk e sz _),.list .nil _ []=>match jd G sz e 0 with
  | some id=>.list (.bk id (lz G id).length) sz []
  | none=>z
 | _,_=>z
def jg (E:Env) (s:St) (t:TypeId) (m k:SV):Option (AV × Bool):=match E.ti t,mapOf s m,k with
 | some i,some es,.v k=>match i.k with
  | .map kt _ (some z)=>match E.ti kt with
   | some j=>if j.ek.plain&&iw j.ek k then match iP j.ek k es with
     | some (some v)=>some (v,true)
     | some none=>some (z,false)
     | none=>none
    else none
   | none=>none
  | _=>none
 | _,_,_=>none
def kY (E:Env) (s:St) (t:TypeId) (m k:SV):Option (AV × Bool):=match jg E s t m k with
 | some (v,false)=>some (BU E s.G t v,false)
 | r=>r
def eX (E:Env) (s:St) (t:TypeId) (m k x:SV):Option St:=match E.ti t,m,k,x with
 | some i,.v (.map id),.v k,.v x=>match i.k,nth s.G id with
  | .map kt _ _,some (.map es)=>match E.ti kt with
   | some j=>if j.ek.plain&&iw j.ek k then match sL j.ek k x es with
     | some es'=>some (s.b9 (aB s.G id (.map es')))
     | none=>none
    else none
   | none=>none
  | _,_=>none
 | _,_,_,_=>none
def ph (l:List UInt8) (pos:Nat):Nat × Nat:=
 bif Nat.blt (l.getD pos 0).toNat 128 then ((l.getD pos 0).toNat,1) else Utf8.decode ⟨⟨l⟩⟩ pos
def kZ (s:St) (dst:Option Tmp) (x:SV):Option St:=match x with
 | .v (.ptr id 0)=>match nth s.G id with
  | some (.gu l pos)=>bif Nat.blt pos l.length then
    match ph l pos with
    | (c,n)=>some ((s.b9 (aB s.G id (.gu l (pos+n)))).put dst (.v (.bi [.bool true,.int .i64 pos,.int .i32 c])))
   else some (s.put dst (.v (.bi [.bool false])))
  | _=>none
 | _=>none
def dS (es:List (AV × AV)) (i:Nat):AV × AV:=match nth es i with
 | some e=>e
 | none=>(fE,fE)
def S6 (E:Env) (kt:TypeId):Option aT:=match E.Nk kt with
 | some p=>some p
 | none=>match E.ti kt with
  | some i=>match i.k with
   | .int k=>some (.int k)
   | .str=>some .str
   | _=>none
  | none=>none
def rn (E:Env) (t:TypeId) (e:AV × AV):Bool × AV × AV:=match E.ti t with
 | some i=>match i.k with
  | .map kt _ _=>match E.Nk t,S6 E kt with
   | some pv,some pk=>(pk.fits e.1&&pv.fits e.2,pk.enc (pk.bw e.1),pv.enc (pv.bw e.2))
   | _,_=>(true,e.1,e.2)
  | _=>(true,e.1,e.2)
 | none=>(true,e.1,e.2)
def zf (E:Env) (s:St) (dst:Option Tmp) (x:SV):Option (Bool × St × List Nat × (Nat→Bool × St)):=match x with
 | .v (.ptr id 0)=>match nth s.G id with
  | some (.nK qt n left _ t)=>match nth s.G qt with
   | some (.map es)=>some (decide (es.length=n),s.put dst (.v (.bi [.bool false])),left,
     fun i=>((rn E t (dS es i)).1,(s.b9 (aB s.G id (.nK qt n (left.erase i) (some i) t))).put dst (.v (.bi [.bool true,(rn E t (dS es i)).2.1,(rn E t (dS es i)).2.2]))))
   | _=>none
  | _=>none
 | _=>none
def sM (E:Env) (s:St) (o:Oper):Option (Bool × St × List Nat × (Nat→Bool × St)):=match o.op with
 | .next x false=>zf E s o.dst (bI E s.ah x)
 | _=>none
def eqO (E:Env) (op:BinOp) (t:TypeId) (a b:AV):Option Bool:=match op,E.ti t with
 | .eql,some i=>kS i.ek a b
 | .neq,some i=>match kS i.ek a b with
  | some r=>some (!r)
  | none=>none
 | _,_=>none
def jP (E:Env) (s:St) (t:TypeId) (len:Nat) (parts:List (Nat × Operand)):Option (List AV):=
 match E.ti t,MY E s.ah parts with
 | some i,some ps=>match i.k with
  | .sl _ esz _ _ (some z)=>
    if Nat.beq z.cells.length esz&&Nat.ble 1 esz&&Nat.ble (len * esz) 16777216&&z.aX then
     tJ (fun i=>some (i * esz,esz)) (ay (List.replicate len z)) (zd ps)
    else none
  | _=>none
 | _,_=>none
def jh (E:Env) (f:FuncId) (s:St) (o:Oper):Option St:=match o.op with
 | .buildSlice t len parts=>match o.dst with
  | some d=>if E.yy f d then match E.ti t with
    | some i=>match i.k,ca E s t len parts.toList with
     | .sl elem _ _ _ _,some (.list _ esz es)=>some ((s.dN (.row (ay es) elem)).put (some d) (.v (.jO s.G.length 0 esz len len)))
     | .sl elem esz _ _ _,none=>match jP E s t len parts.toList with
      | some cs=>some ((s.dN (.row cs elem)).put (some d) (.v (.jO s.G.length 0 esz len len)))
      | none=>none
     | _,_=>none
    | none=>none
   else if E.yy f (d+196608) then match E.ti t with
    | some i=>match i.k,ca E s t len parts.toList with
     | .sl elem _ _ _ _,some (.list _ esz es)=>if Nat.ble len 65536 then some ((s.dN (.dc es esz elem)).put (some d) (.v (.dH s.G.length len 0 esz len))) else none
     | _,_=>none
    | none=>none
   else if E.yy f (d+65536) then match E.ti t with
    | some i=>match i.k,ca E s t len parts.toList with
     | .sl elem _ _ _ _,some (.list _ esz es)=>if Nat.ble len 65536 then some ((s.dN (.tok len esz elem)).put (some d) (.v (.list (.own s.G.length) esz es))) else none
     | _,_=>none
    | none=>none
   else none
  | none=>none
 | _=>none
def zg (wk:Bool) (es:List AV):List AV:=match wk with
 | true=>es.map AV.gD
 | false=>es
def lX (wk:Bool):List AV→List GO→Bool × List AV × List GO
 | [],G=>(true,[],G)
 | .dH id f 0 sz len :: l,G=>match nth G id with
  | some (.dc es bN _)=>match lX wk l (aB G id .dead) with
   | (c,r,G')=>(decide (f=es.length)&&decide (len=es.length)&&Nat.beq sz bN&&aH (zg wk es)&&c,.list .eU sz (zg wk es) :: r,G')
  | _=>match lX wk l G with
   | (_,r,G')=>(false,r,G')
 | a :: l,G=>match lX wk l G with
  | (c,r,G')=>(c,a :: r,G')
def pj (cut wk:Bool) (s:St) (t:Tmp):Option (Bool × St):=match lk s.ah t with
 | .v (.dH id f off sz len)=>match nth s.G id with
  | some (.dc es bN _)=>if Nat.beq off 0&&Nat.beq sz bN then
    some (decide (f=es.length)&&(bif cut then decide (len≤es.length) else decide (len=es.length))&&aH (zg wk es),⟨.put t (.v (.list .eU sz (zg wk (bif cut then es.take len else es)))) :: s.ah,s.boxes,aB s.G id .dead,s.marks,s.ro,s.n⟩) else none
  | _=>none
 | .v (.ptr id 0)=>match nth s.G id with
  | some (.row cs _)=>some (aH cs,⟨.put t (.v (.ep cs)) :: s.ah,s.boxes,aB s.G id .dead,s.marks,s.ro,s.n⟩)
  | _=>none
 | .v (.agg cs)=>match lX wk cs s.G with
  | (c,cs',G')=>some (c,⟨.put t (.v (.agg cs')) :: s.ah,s.boxes,G',s.marks,s.ro,s.n⟩)
 | _=>none
def gP (cut wk:Bool):List Operand→St→Bool × St
 | [],s=>(true,s)
 | .tmp t :: l,s=>match pj cut wk s t with
  | some (c,s')=>match gP cut wk l s' with
   | (c',s2)=>(c&&c',s2)
  | none=>gP cut wk l s
 | _ :: l,s=>gP cut wk l s
def Hh (E:Env) (f:FuncId) (s:St) (o:Oper):Option (Bool × St):=match o.dst with
 | some d=>if E.yy f (d+262144) then some (gP (E.yy f (d+393216)) (E.yy f (d+458752)) o.op.operands.toList s) else none
 | none=>none
def lY (E:Env) (s:St) (a b:TypeId) (x:SV):Option (Bool × AV):=
 match E.ti a,E.ti b,x with
 | some i,some j,.v x=>match j.k,x with
  | .int k,.int _ n=>some (true,.int k (k.wrap n))
  | .str,.list _ sz es=>match i.k with
   | .sl elem 1 _ _ _=>match E.ti elem with
    | some e=>match e.k with
     | .int .u8=>some ((Nat.beq sz 1 || es.isEmpty)&&allFit (aT.fits (.int .u8)) es,.str (iu es))
     | .int .i32=>some ((Nat.beq sz 1 || es.isEmpty)&&allFit (aT.fits (.int .i32)) es,.str (vt es))
     | _=>none
    | none=>none
   | _=>none
  | .str,.jO id off 1 len _=>match i.k,nth s.G id with
   | .sl elem 1 _ _ _,some (.row cs _)=>match E.ti elem with
    | some e=>match e.k with
     | .int .u8=>some (Nat.ble (off+len) cs.length&&allFit (aT.fits (.int .u8)) (eF off (off+len) cs),.str (iu (eF off (off+len) cs)))
     | _=>none
    | none=>none
   | _,_=>none
  | _,_=>none
 | _,_,_=>none
def Hi (id sz:Nat):List AV→List Nat→Option (List AV × List Nat)
 | [],fs=>some ([],fs)
 | .list .nil _ [] :: l,fs=>match Hi id sz l (fs++[0]) with
  | some (r,Ar)=>some (.list (.bk id fs.length) sz [] :: r,Ar)
  | none=>none
 | .list .full bN es :: l,fs=>if Nat.beq sz bN then match Hi id sz l (fs++[es.length]) with
   | some (r,Ar)=>some (.list (.bk id fs.length) sz es :: r,Ar)
   | none=>none
  else none
 | _ :: _,_=>none
def uT (e:EK) (k k':AV):Bool:=match DJ e k k' with
 | some b=>b
 | none=>false
def e7 (e:EK) (k:AV):List (AV × AV)→Bool
 | []=>true
 | (k',_) :: l=>(DJ e k k').isSome&&e7 e k l
def e9 (e:EK) (k:AV):List (AV × AV)→Option AV
 | []=>none
 | (k',v) :: l=>bif uT e k k' then some v else e9 e k l
def dU (e:EK) (k v:AV):List (AV × AV)→List (AV × AV)
 | []=>[(k,v)]
 | (k',v') :: l=>bif uT e k k' then (k,v) :: l else (k',v') :: dU e k v l
def cC (e:EK) (k z:AV) (es:List (AV × AV)):AV:=(e9 e k es).getD z
def gE (e:EK) (k:AV):List (AV × AV)→Nat
 | []=>0
 | (k',_) :: l=>bif uT e k k' then 0 else gE e k l+1
def iy:List (AV × AV)→Nat→AV→List (AV × AV)
 | [],_,_=>[]
 | (k,_) :: l,0,x=>(k,x) :: l
 | e :: l,n+1,x=>e :: iy l n x
def sN (E:Env) (s:St) (x:SV):Option (Bool × AV):=match x with
 | .v (.ptr id 0)=>match nth s.G id with
  | some (.nK qt n _ (some i) t)=>match nth s.G qt with
   | some (.map es)=>some (decide (es.length=n)&&decide (i < n)&&(rn E t (dS es i)).1,.bi [(rn E t (dS es i)).2.1,(rn E t (dS es i)).2.2])
   | _=>none
  | _=>none
 | _=>none
def fX (E:Env) (s:St) (t:TypeId) (m k:SV):Option (Bool × AV × St):=match E.ti t,m,k with
 | some i,.v (.map id),.v k=>match i.k,nth s.G id with
  | .map kt _ (some z),some (.map es)=>match E.ti kt with
   | some j=>if j.ek.plain&&iw j.ek k then
     some (e7 j.ek k es,.bi [cC j.ek k z es,.int .i64 (gE j.ek k es:Nat)],s.b9 (aB s.G id (.map (dU j.ek k (cC j.ek k z es) es)))) else none
   | none=>none
  | _,_=>none
 | _,_,_=>none
def ef (s:St) (m st x:SV):Option (Bool × St):=match m,st,x with
 | .v (.map id),.v (.int .i64 n),.v v=>match nth s.G id with
  | some (.map es)=>some (decide (0≤n)&&decide (n.toNat < es.length),s.b9 (aB s.G id (.map (iy es n.toNat v))))
  | _=>none
 | _,_,_=>none
def gF (E:Env) (f:FuncId) (s:St) (o:Oper):Option (Bool × St):=match o.dst with
 | some d=>if E.yy f (d+524288) then match o.op with
   | .call { callee:=.builtin .append,args,argTypes }=>match lS E s.ah args.toList,argTypes.toList with
    | some [.dH id g off sz len,.list k szy (y :: ys)],[t,u]=>match E.ti t with
     | some i=>match i.k with
      | .sl elem esz _ bF (some z)=>match E.ti elem with
       | some j=>match j.k with
        | .sl e2 mL _ _ _=>match jd s.G mL e2 0 with
         | some kQ=>match Hi kQ mL (y :: ys) (lz s.G kQ),nth s.G id with
          | some (Hj,Ar),some (.dc es bN e')=>
           if Nat.beq szy esz&&Nat.beq bN esz&&Nat.beq e' elem&&Nat.beq sz esz&&Nat.beq t u&&Nat.ble 1 esz&&Nat.ble 1 bF&&Nat.beq z.cells.length esz&&z.aX then
            some (decide (g=es.length)&&decide (off=0)&&decide (len=g)&&decide ((es.length+(y :: ys).length) * bF≤140737488355328),
             (s.b9 (aB (aB s.G kQ (.bk Ar mL e2)) id (.dc (es++Hj) esz elem))).put o.dst (.v (.dH id (es.length+(y :: ys).length) 0 esz (es.length+(y :: ys).length))))
           else none
          | _,_=>none
         | none=>none
        | _=>none
       | none=>none
      | _=>none
     | none=>none
    | _,_=>none
   | _=>none
  else none
 | none=>none
def tK (E:Env) (f:FuncId) (s:St) (o:Oper):Option (Bool × St):=match o.dst with
 | some d=>if E.yy f (d+524288) then match o.op with
   | .lookup t m k ok=>match E.Z9 t,E.ti t,bI E s.ah m,bI E s.ah k with
    | some (.bk e sz p),some i,.v (.map id),.v k=>match i.k,nth s.G id with
     | .map kt _ (some (.list .nil _ [])),some (.map es)=>match E.ti kt,jd s.G sz e 0 with
      | some j,some kQ=>if j.ek.plain&&iw j.ek k then
        some (e7 j.ek k es&&(aT.bk kQ sz p).fits (cC j.ek k (.list (.bk kQ (lz s.G kQ).length) sz []) es),
         (s.b9 (aB s.G kQ (.bk (lz s.G kQ++[0]) sz e))).put o.dst (.v (if ok then .bi [(aT.bk kQ sz p).enc ((aT.bk kQ sz p).bw (cC j.ek k (.list (.bk kQ (lz s.G kQ).length) sz []) es)),.bool (e9 j.ek k es).isSome]
          else (aT.bk kQ sz p).enc ((aT.bk kQ sz p).bw (cC j.ek k (.list (.bk kQ (lz s.G kQ).length) sz []) es)))))
       else none
      | _,_=>none
     | _,_=>none
    | _,_,_,_=>none
   | _=>none
  else none
 | none=>none
def aa8 (E:Env) (f:FuncId) (d:Option Tmp):Bool:=match d with
 | some d=>E.yy f (d+196608)
 | none=>false
def au (E:Env) (f:FuncId) (s:St) (o:Oper):Option (Bool × St):=
 match o.op with
 | .move x=>match bI E s.ah x with
  | .v a=>some (true,s.put o.dst (.v a))
  | .lp k off=>some (true,s.put o.dst (.lp k off))
  | .none=>some (true,s.put o.dst .none)
 | .assign x=>match bI E s.ah x with
  | .v a=>some (true,s.put o.dst (.v a))
  | .lp k off=>some (true,s.put o.dst (.lp k off))
  | .none=>some (true,s.put o.dst .none)
 | .pick c a b=>match bI E s.ah c,bI E s.ah a,bI E s.ah b with
  | .v (.bool t),.v x,.v y=>some (true,s.put o.dst (.v (Ao t x y)))
  | _,_,_=>none
 | .alloc e=>match E.ti e with
  | some i=>match i.zero with
   | some z=>if z.aX then eV E f s o.dst e z.cells else none
   | none=>none
  | none=>none
 | .box t x=>match bI E s.ah x with
  | .v v=>if v.aX then eV E f s o.dst t v.cells else none
  | _=>none
 | .build t parts=>match mJ E s t parts.toList with
  | some v=>some (true,s.put o.dst (.v v))
  | none=>none
 | .buildSlice t len parts=>match ca E s t len parts.toList with
  | some v=>some (true,s.put o.dst (.v v))
  | none=>none
 | .load t a=>match ze E s t (bI E s.ah a) with
  | some (c,v)=>some (c,s.put o.dst (.v v))
  | none=>none
 | .store t a x=>match o.dst,jz E s t (bI E s.ah a) (bI E s.ah x) with
  | none,some (c,s')=>some (c,s')
  | _,_=>none
 | .binOp op t x y _=>match bI E s.ah x,bI E s.ah y with
  | .v a,.v b=>match BS op a b with
   | some (c,v)=>some (c,s.put o.dst (.v v))
   | none=>match eqO E op t a b with
    | some r=>some (true,s.put o.dst (.v (.bool r)))
    | none=>none
  | _,_=>none
 | .unOp op _ x=>match op,bI E s.ah x with
  | .not,.v (.bool b)=>some (true,s.put o.dst (.v (.bool (!b))))
  | .neg,.v (.int k n)=>some (true,s.put o.dst (.v (.int k (k.wrap (0 - n)))))
  | _,_=>none
 | .convert a b x=>match lY E s a b (bI E s.ah x) with
  | some (c,v)=>some (c,s.put o.dst (.v v))
  | none=>none
 | .nilCheck x=>match bI E s.ah x with
  | .v (.ptr id off)=>some (true,s.put o.dst (.v (.ptr id off)))
  | .lp k off=>some (true,s.put o.dst (.lp k off))
  | _=>none
 | .makeFunc (.func g) first captured=>match lS E s.ah first.toList,lS E s.ah captured.toList with
  | some x,some y=>some (true,s.put o.dst (.v (.fn g x y)))
  | _,_=>none
 | .fieldAddr t x j=>match kb E t (bI E s.ah x) j with
  | some p=>some (true,s.put o.dst p)
  | none=>none
 | .field t x j=>match DR E t (bI E s.ah x) j with
  | some v=>some (true,s.put o.dst (.v v))
  | none=>none
 | .indexAddr t x ix=>match ka E t (bI E s.ah x) (bI E s.ah ix) with
  | some (c,p)=>some (c,s.put o.dst p)
  | none=>none
 | .index t x ix=>match DS E t (bI E s.ah x) (bI E s.ah ix) with
  | some (c,v)=>some (c,s.put o.dst (.v v))
  | none=>none
 | .slice t x lo hi mx=>match mK E s.ah lo,mK E s.ah hi with
  | some l,some h=>match Aq E t (bI E s.ah x) l h mx with
   | some (c,v)=>some (c,s.put o.dst (.v v))
   | none=>none
  | _,_=>none
 | .extract x i=>match bI E s.ah x with
  | .v (.bi vs)=>match nth vs i with
   | some v=>some (true,s.put o.dst (.v v))
   | none=>none
  | _=>none
 | .makeSlice t l c=>match E.ti t,bI E s.ah l,bI E s.ah c with
  | some i,.v (.int _ n),.v (.int _ m)=>match i.k with
   | .sl elem esz _ bF (some z)=>
    if Nat.beq z.cells.length esz&&Nat.ble 1 esz&&z.aX then
     if aa8 E f o.dst then (if z.closed then some (decide (0≤n∧n≤m∧m≤140737488355328∧m * bF≤140737488355328),
      (s.dN (.dc (List.replicate n.toNat z) esz elem)).put o.dst (.v (.dH s.G.length n.toNat 0 esz n.toNat))) else none)
     else some (decide (0≤n∧n≤m∧m≤140737488355328∧m * bF≤140737488355328),
      (s.dN (.row (ay (List.replicate m.toNat z)) elem)).put o.dst (.v (.jO s.G.length 0 esz n.toNat m.toNat)))
    else none
   | _=>none
  | _,_,_=>none
 | .lookup t m k ok=>match kY E s t (bI E s.ah m) (bI E s.ah k) with
  | some (v,b)=>some (true,s.put o.dst (.v (if ok then .bi [v,.bool b] else v)))
  | none=>none
 | .mapUpdate t m k x=>match o.dst,eX E s t (bI E s.ah m) (bI E s.ah k) (bI E s.ah x) with
  | none,some s'=>some (true,s')
  | _,_=>none
 | .insert t m k x=>match o.dst,eX E s t (bI E s.ah m) (bI E s.ah k) (bI E s.ah x) with
  | none,some s'=>some (true,s')
  | _,_=>none
 | .entry x=>match sN E s (bI E s.ah x) with
  | some (c,v)=>some (c,s.put o.dst (.v v))
  | none=>none
 | .mapEntry t m k=>match fX E s t (bI E s.ah m) (bI E s.ah k) with
  | some (c,v,s')=>some (c,s'.put o.dst (.v v))
  | none=>none
 | .entryStore _ m st x=>match o.dst,ef s (bI E s.ah m) (bI E s.ah st) (bI E s.ah x) with
  | none,some (c,s')=>some (c,s')
  | _,_=>none
 | .range t x=>match E.ti t,bI E s.ah x with
  | some i,.v (.str l)=>match i.k with
   | .str=>some (true,(s.dN (.gu l 0)).put o.dst (.v (.ptr s.G.length 0)))
   | _=>none
  | some i,.v (.map id)=>match i.k,nth s.G id with
   | .map _ _ _,some (.map es)=>some (true,(s.dN (.nK id es.length (List.range es.length) none t)).put o.dst (.v (.ptr s.G.length 0)))
   | _,_=>none
  | _,_=>none
 | .next x true=>match kZ s o.dst (bI E s.ah x) with
  | some s'=>some (true,s')
  | none=>none
 | .makeMap _ none=>some (true,(s.dN (.map [])).put o.dst (.v (.map s.G.length)))
 | .call { callee:=.builtin b,args,argTypes }=>match gF E f s o with
  | some r=>some r
  | none=>match lS E s.ah args.toList with
   | some l=>bS E s o.dst b l argTypes.toList
   | none=>none
 | _=>none
end Go.Am
namespace Go.Am
open Go
inductive TR where
 | bJ
 | full (f:Nat)
 | tok (f b c:Nat)
inductive RO where
 | none
 | bJ
 | b7 (b:Nat)
 | tok (f b c:Nat)
 | bk (ts:List TR)
def RO.has:RO→Nat→Prop
 | .none,_=>False
 | .bJ,_=>False
 | .b7 b,x=>x=b
 | .tok _ b _,x=>x=b
 | .bk ts,x=>∃ j f c,nth ts j=some (.tok f x c)
def ji (sz:Nat) (es:List AV):Prop:=∀ e∈es,e.cells.length=sz∧e.aX=true∧e.closed=true
def dB (sz:Nat) (es:List AV):Prop:=∀ e∈es,e.cells.length=sz∧e.aX=true
theorem ji.g {sz:Nat} {es:List AV} (h:ji sz es):dB sz es:=fun e he=>⟨(h e he).1,(h e he).2.1⟩
structure ao where
 I:Nat→Nat→Prop
 obj:List RO
def RQ (b o len cap:Nat):RO→Prop
 | .none=>True
 | .bJ=>False
 | .b7 _=>False
 | .tok f b' c'=>len≤f∧(len=f→b=b'∧o=0∧cap=c')
 | .bk _=>False
def Nn (b o len cap:Nat):TR→Prop
 | .bJ=>False
 | .full f=>len≤f∧(len=f→cap=len)
 | .tok f b' c'=>len≤f∧(len=f→b=b'∧o=0∧cap=c')
def Xj (b o len cap j:Nat):RO→Prop
 | .none=>True
 | .bJ=>False
 | .b7 _=>False
 | .tok _ _ _=>False
 | .bk ts=>∃ t,nth ts j=some t∧Nn b o len cap t
def sO:RO→Prop
 | .none=>True
 | .bJ=>False
 | .b7 _=>False
 | .tok _ _ _=>False
 | .bk _=>True
def mM:RO→Prop
 | .none=>True
 | .bJ=>True
 | .b7 _=>False
 | .tok f _ _=>1≤f
 | .bk _=>False
def Hk (b o f off sz cap:Nat):RO→Prop
 | .none=>True
 | .bJ=>False
 | .b7 _=>False
 | .tok f' b' c'=>f≤f'∧(f=f'→b=b'∧off+cap=c'∧(o=off * sz∨cap=0))
 | .bk _=>False
def I0 (b o f i off sz:Nat):RO→Prop
 | .none=>True
 | .bJ=>False
 | .b7 _=>False
 | .tok f' b' _=>f≤f'∧(f=f'→b=b'∧o=i * sz+off)
 | .bk _=>False
def As (R:ao) (k:LK) (b o len cap:Nat):Prop:=match k with
 | .nil=>False
 | .full=>cap=len
 | .eU=>True
 | .own id=>∃ ro,nth R.obj id=some ro∧RQ b o len cap ro
 | .bk id j=>∃ ro,nth R.obj id=some ro∧Xj b o len cap j ro
mutual
inductive Rel (R:ao) (w:World):AV→Value→Prop
 | bool (b:Bool):Rel R w (.bool b) (.bool b)
 | int (k:IntKind) (n:Int):Rel R w (.int k n) (.int k n)
 | str (l:List UInt8):Rel R w (.str l) (.string ⟨⟨l⟩⟩)
 | agg {cs:List AV} {vs:List Value} (h:aM R w cs vs) (h1:∀ v∈vs,v.oneCell'=true):Rel R w (.agg cs) (.agg ⟨vs⟩)
 | bi {cs:List AV} {vs:List Value} (h:aM R w cs vs):Rel R w (.bi cs) (.tuple ⟨vs⟩)
 | ir:Rel R w .ir (.pointer none)
 | ptr {id off b:Nat} (h:nth R.obj id=some (.b7 b)):Rel R w (.ptr id off) (.pointer (some ⟨b,off,none⟩))
 | ep {cs:List AV} {b o:Nat} (h:dO R w b o cs):Rel R w (.ep cs) (.pointer (some ⟨b,o,none⟩))
 | jA {sz:Nat}:Rel R w (.list .nil sz []) (.slice none 0 0)
 | iU {sz:Nat}:Rel R w (.list .eU sz []) (.slice none 0 0)
 | mN {sz:Nat} {a:Addr}:Rel R w (.list .eU sz []) (.slice (some a) 0 0)
 | lZ {id sz:Nat} {ro:RO} (h:nth R.obj id=some ro) (ho:mM ro):Rel R w (.list (.own id) sz []) (.slice none 0 0)
 | lA {id j sz:Nat} {ro:RO} (h:nth R.obj id=some ro) (ho:sO ro):Rel R w (.list (.bk id j) sz []) (.slice none 0 0)
 | list {k:LK} {sz:Nat} {es:List AV} {b o len cap:Nat} (h:fY R w b o sz es) (hl:len=es.length) (hc:len≤cap) (hk:As R k b o len cap):Rel R w (.list k sz es) (.slice (some ⟨b,o,none⟩) len cap)
 | jO {id off sz len cap b:Nat} (h:nth R.obj id=some (.b7 b)) (hc:len≤cap):Rel R w (.jO id off sz len cap) (.slice (some ⟨b,off,none⟩) len cap)
 | iN {id sz:Nat} {ro:RO} (h:nth R.obj id=some ro) (ho:mM ro):Rel R w (.dH id 0 0 sz 0) (.slice none 0 0)
 | dH {id f off sz len cap b o:Nat} {ro:RO} (h:nth R.obj id=some ro) (ho:Hk b o f off sz cap ro) (hc:len≤cap):Rel R w (.dH id f off sz len) (.slice (some ⟨b,o,none⟩) len cap)
 | gp {id f i off sz b o:Nat} {t:TypeId} {ro:RO} (h:nth R.obj id=some ro) (ho:I0 b o f i off sz ro):Rel R w (.gp id f i off sz t) (.pointer (some ⟨b,o,none⟩))
 | j9:Rel R w .j9 (.map none)
 | map {id b:Nat} (h:nth R.obj id=some (.b7 b)):Rel R w (.map id) (.map (some b))
 | cE:Rel R w .cE .nilFunc
 | fn {f:FuncId} {xs ys:List AV} {vs us:List Value} (h:aM R w xs vs) (h':aM R w ys us):Rel R w (.fn f xs ys) (.func (.func f) ⟨vs⟩ ⟨us⟩)
 | yield {id b:Nat} (h:nth R.obj id=some (.b7 b)):Rel R w (.yield id) (.func (.yield b) #[] #[])
 | nQ:Rel R w .nQ .nilIface
 | iface {t:TypeId} {v:AV} {c:Value} (h:Rel R w v c):Rel R w (.iface t v) (.iface t c)
inductive aM (R:ao) (w:World):List AV→List Value→Prop
 | nil:aM R w [] []
 | cons {a:AV} {c:Value} {l:List AV} {cs:List Value} (h:Rel R w a c) (t:aM R w l cs):aM R w (a :: l) (c :: cs)
inductive fY (R:ao) (w:World):Nat→Nat→Nat→List AV→Prop
 | nil {b o sz:Nat}:fY R w b o sz []
 | cons {b o sz:Nat} {e:AV} {es:List AV} (hl:e.cells.length=sz) (ht:e.aX=true) (hk:e.closed=true) (h:dO R w b o e.cells) (t:fY R w b (o+sz) sz es):fY R w b o sz (e :: es)
inductive dO (R:ao) (w:World):Nat→Nat→List AV→Prop
 | nil {b o:Nat}:dO R w b o []
 | cons {b o:Nat} {a:AV} {c:Value} {l:List AV} (hc:w.cell? ⟨b,o,none⟩=some c) (h1:c.oneCell'=true) (hi:R.I b o) (h:Rel R w a c) (t:dO R w b (o+1) l):dO R w b o (a :: l)
end
def lB:TR→TR→Prop
 | .bJ,.bJ=>True
 | .bJ,.full _=>False
 | .bJ,.tok f _ _=>1≤f
 | .full _,.bJ=>False
 | .full f,.full f'=>f'=f
 | .full f,.tok f' _ _=>f < f'
 | .tok _ _ _,.bJ=>False
 | .tok _ _ _,.full _=>False
 | .tok f b c,.tok f' b' c'=>f≤f'∧(f'=f→b'=b∧c'=c)
theorem lB.refl (t:TR):lB t t:=by cases t <;> simp [lB]
theorem lB.trans {a b c:TR} (h:lB a b) (k:lB b c):lB a c:=by
 cases a <;> cases b <;> cases c <;> simp only [lB] at * <;> omega
def sP (ts WE:List TR):Prop:=∀ j t,nth ts j=some t→∃ t',nth WE j=some t'∧lB t t'
theorem sP.refl (ts:List TR):sP ts ts:=fun _ t h=>⟨t,h,lB.refl t⟩
theorem sP.trans {a b c:List TR} (h:sP a b) (k:sP b c):sP a c:=fun j t hj=>
 let ⟨_,h1,h2⟩:=h j t hj
 let ⟨t2,k1,k2⟩:=k j _ h1
 ⟨t2,k1,h2.trans k2⟩
def cD:RO→RO→Prop
 | .none,r=>r=.none
 | .b7 b,r=>r=.b7 b
 | .bJ,.none=>True
 | .bJ,.bJ=>True
 | .bJ,.b7 _=>False
 | .bJ,.tok f _ _=>1≤f
 | .tok _ _ _,.none=>True
 | .tok _ _ _,.bJ=>False
 | .tok _ _ _,.b7 _=>False
 | .tok f b c,.tok f' b' c'=>f≤f'∧(f'=f→b'=b∧c'=c)
 | .bJ,.bk _=>False
 | .tok _ _ _,.bk _=>False
 | .bk _,.none=>True
 | .bk _,.bJ=>False
 | .bk _,.b7 _=>False
 | .bk _,.tok _ _ _=>False
 | .bk ts,.bk WE=>sP ts WE
theorem cD.refl (r:RO):cD r r:=by cases r <;> simp [cD,sP.refl]
theorem cD.trans {a b c:RO} (h:cD a b) (k:cD b c):cD a c:=by
 cases a with
 | none=>simp only [cD] at h; subst h; exact k
 | b7 x=>simp only [cD] at h; subst h; exact k
 | bJ=>
  cases b with
  | none=>simp only [cD] at k; subst k; trivial
  | bJ=>exact k
  | b7 z=>exact h.elim
  | tok f' x' y'=>
   cases c with
   | none=>trivial
   | bJ=>exact k.elim
   | b7 z=>exact k.elim
   | bk _=>exact k.elim
   | tok f'' x'' y''=>simp only [cD] at *; omega
  | bk _=>exact h.elim
 | tok f x y=>
  cases b with
  | none=>simp only [cD] at k; subst k; trivial
  | bJ=>exact h.elim
  | b7 z=>exact h.elim
  | tok f' x' y'=>
   cases c with
   | none=>trivial
   | bJ=>exact k.elim
   | b7 z=>exact k.elim
   | tok f'' x'' y''=>
    simp only [cD] at *
    refine ⟨Nat.le_trans h.1 k.1,fun e=>?_⟩
    obtain ⟨h1,h2⟩:=h; obtain ⟨k1,k2⟩:=k
    have e1:f'=f:=by omega
    have e2:f''=f':=by omega
    exact ⟨(k2 e2).1.trans (h2 e1).1,(k2 e2).2.trans (h2 e1).2⟩
   | bk _=>exact k.elim
  | bk _=>exact h.elim
 | bk ts=>
  cases b with
  | none=>simp only [cD] at k; subst k; trivial
  | bJ=>exact h.elim
  | b7 z=>exact h.elim
  | tok f' x' y'=>exact h.elim
  | bk WE=>
   cases c with
   | none=>trivial
   | bJ=>exact k.elim
   | b7 z=>exact k.elim
   | tok f' x' y'=>exact k.elim
   | bk ts''=>exact sP.trans h k
def rq (r r':Loop):Prop:=r'.tmps=r.tmps∧r'.params=r.params∧r'.assign=r.assign∧r'.body=r.body∧r'.defers=r.defers
def gy (w w':World):Prop:=∀ (b:Nat) (r:Loop),w.heap[b]?=some (Obj.loop r)→∃ r',w'.heap[b]?=some (Obj.loop r')∧rq r r'
theorem gy.refl (w:World):gy w w:=fun _ r h=>⟨r,h,rfl,rfl,rfl,rfl,rfl⟩
theorem gy.trans {w w1 w2:World} (h:gy w w1) (k:gy w1 w2):gy w w2:=fun b r hb=>
 let ⟨_,h1,h2,h3,h4,h5,h6⟩:=h b r hb
 let ⟨r2,k1,k2,k3,k4,k5,k6⟩:=k b _ h1
 ⟨r2,k1,k2.trans h2,k3.trans h3,k4.trans h4,k5.trans h5,k6.trans h6⟩
theorem gy.old {w w':World} (h:∀ b,b < w.heap.size→w'.heap[b]?=w.heap[b]?):gy w w':=fun b r hb=>
 ⟨r,(h b (by
  rcases Nat.lt_or_ge b w.heap.size with bV | mF
  ·exact bV
  ·rw [Array.getElem?_eq_none mF] at hb; cases hb)).trans hb,rfl,rfl,rfl,rfl,rfl⟩
structure Ext (R:ao) (w:World) (R':ao) (w':World):Prop where
 I:∀ b o,R.I b o→R'.I b o
 cell:∀ b o,R.I b o→w'.cell? ⟨b,o,none⟩=w.cell? ⟨b,o,none⟩
 obj:∀ id ro,nth R.obj id=some ro→∃ lT,nth R'.obj id=some lT∧cD ro lT
 lp:gy w w'
theorem Ext.refl (R:ao) (w:World):Ext R w R w:=⟨fun _ _ h=>h,fun _ _ _=>rfl,fun _ ro h=>⟨ro,h,cD.refl ro⟩,gy.refl w⟩
theorem Ext.trans {R R' No:ao} {w w' RR:World} (h:Ext R w R' w') (k:Ext R' w' No RR):Ext R w No RR:=
 ⟨fun b o hi=>k.I b o (h.I b o hi),fun b o hi=>(k.cell b o (h.I b o hi)).trans (h.cell b o hi),fun id ro hr=>
  let ⟨_,h1,h2⟩:=h.obj id ro hr
  let ⟨r2,h3,h4⟩:=k.obj id _ h1
  ⟨r2,h3,h2.trans h4⟩,h.lp.trans k.lp⟩
theorem Ext.b7 {R R':ao} {w w':World} (h:Ext R w R' w') {id b:Nat} (hb:nth R.obj id=some (.b7 b)):nth R'.obj id=some (.b7 b):=by
 obtain ⟨r,h1,h2⟩:=h.obj id _ hb
 simp only [cD] at h2
 subst h2
 exact h1
theorem As.mono {R R':ao} {w w':World} (e:Ext R w R' w') {k:LK} {b o len cap:Nat} (h:As R k b o len cap):As R' k b o len cap:=by
 cases k with
 | nil=>exact h
 | full=>exact h
 | eU=>trivial
 | own id=>
  obtain ⟨ro,h1,h2⟩:=h
  obtain ⟨lT,h3,h4⟩:=e.obj id ro h1
  refine ⟨lT,h3,?_⟩
  cases ro with
  | none=>simp only [cD] at h4; subst h4; trivial
  | bJ=>exact h2.elim
  | b7 x=>exact h2.elim
  | tok f x y=>
   cases lT with
   | none=>trivial
   | bJ=>exact h4.elim
   | b7 z=>exact h4.elim
   | tok f' x' y'=>
    simp only [cD,RQ] at *
    refine ⟨by omega,fun e=>?_⟩
    have e1:f'=f:=by omega
    have h5:=h2.2 (by omega)
    have h6:=h4.2 e1
    exact ⟨h5.1.trans h6.1.symm,h5.2.1,h5.2.2.trans h6.2.symm⟩
   | bk _=>exact h4.elim
  | bk _=>exact h2.elim
 | bk id j=>
  obtain ⟨ro,h1,h2⟩:=h
  obtain ⟨lT,h3,h4⟩:=e.obj id ro h1
  refine ⟨lT,h3,?_⟩
  cases ro with
  | none=>simp only [cD] at h4; subst h4; trivial
  | bJ=>exact h2.elim
  | b7 x=>exact h2.elim
  | tok _ _ _=>exact h2.elim
  | bk ts=>
   cases lT with
   | none=>trivial
   | bJ=>exact h4.elim
   | b7 z=>exact h4.elim
   | tok _ _ _=>exact h4.elim
   | bk WE=>
    obtain ⟨t,k1,k2⟩:=h2
    obtain ⟨t',k3,k4⟩:=h4 j t k1
    refine ⟨t',k3,?_⟩
    cases t with
    | bJ=>exact k2.elim
    | full f=>
     cases t' with
     | bJ=>exact k4.elim
     | full f'=>simp only [lB,Nn] at *; subst k4; exact k2
     | tok f' x' y'=>simp only [lB,Nn] at *; exact ⟨by omega,fun e=>by omega⟩
    | tok f x y=>
     cases t' with
     | bJ=>exact k4.elim
     | full f'=>exact k4.elim
     | tok f' x' y'=>
      simp only [lB,Nn] at *
      refine ⟨by omega,fun e=>?_⟩
      have e1:f'=f:=by omega
      have h5:=k2.2 (by omega)
      have h6:=k4.2 e1
      exact ⟨h5.1.trans h6.1.symm,h5.2.1,h5.2.2.trans h6.2.symm⟩
theorem mM.mono {ro lT:RO} (h:mM ro) (e:cD ro lT):mM lT:=by
 cases ro with
 | none=>simp only [cD] at e; subst e; trivial
 | bJ=>cases lT <;> first | trivial | exact e.elim | exact e
 | b7 _=>exact h.elim
 | tok f x y=>
  cases lT with
  | none=>trivial
  | bJ=>exact e.elim
  | b7 z=>exact e.elim
  | tok f' x' y'=>simp only [cD,mM] at *; omega
  | bk _=>exact e.elim
 | bk _=>exact h.elim
theorem sO.mono {ro lT:RO} (h:sO ro) (e:cD ro lT):sO lT:=by
 cases ro with
 | none=>simp only [cD] at e; subst e; trivial
 | bJ=>exact h.elim
 | b7 _=>exact h.elim
 | tok _ _ _=>exact h.elim
 | bk ts=>
  cases lT with
  | none=>trivial
  | bJ=>exact e.elim
  | b7 z=>exact e.elim
  | tok _ _ _=>exact e.elim
  | bk WE=>trivial
theorem Hk.mono {b o f off sz cap:Nat} {ro lT:RO} (h:Hk b o f off sz cap ro) (e:cD ro lT):Hk b o f off sz cap lT:=by
 cases ro with
 | none=>simp only [cD] at e; subst e; trivial
 | bJ=>exact h.elim
 | b7 _=>exact h.elim
 | tok f1 x y=>
  cases lT with
  | none=>trivial
  | bJ=>exact e.elim
  | b7 z=>exact e.elim
  | tok f' x' y'=>
   simp only [cD,Hk] at *
   refine ⟨by omega,fun k=>?_⟩
   obtain ⟨e1,e2⟩:=e.2 (by omega)
   obtain ⟨h1,h2,h3⟩:=h.2 (by omega)
   exact ⟨h1.trans e1.symm,h2.trans e2.symm,h3⟩
  | bk _=>exact e.elim
 | bk _=>exact h.elim
theorem I0.mono {b o f i off sz:Nat} {ro lT:RO} (h:I0 b o f i off sz ro) (e:cD ro lT):I0 b o f i off sz lT:=by
 cases ro with
 | none=>simp only [cD] at e; subst e; trivial
 | bJ=>exact h.elim
 | b7 _=>exact h.elim
 | tok f1 x y=>
  cases lT with
  | none=>trivial
  | bJ=>exact e.elim
  | b7 z=>exact e.elim
  | tok f' x' y'=>
   simp only [cD,I0] at *
   refine ⟨by omega,fun k=>?_⟩
   obtain ⟨e1,e2⟩:=e.2 (by omega)
   obtain ⟨h1,h2⟩:=h.2 (by omega)
   exact ⟨h1.trans e1.symm,h2⟩
  | bk _=>exact e.elim
 | bk _=>exact h.elim
mutual
theorem Rel.mono {R R':ao} {w w':World} (e:Ext R w R' w'):∀ {a:AV} {c:Value},Rel R w a c→Rel R' w' a c
 | _,_,.bool b=>.bool b
 | _,_,.int k n=>.int k n
 | _,_,.str l=>.str l
 | _,_,.agg h h1=>.agg (h.mono e) h1
 | _,_,.bi h=>.bi (h.mono e)
 | _,_,.ir=>.ir
 | _,_,.ptr h=>.ptr (e.b7 h)
 | _,_,.ep h=>.ep (h.mono e)
 | _,_,.jA=>.jA
 | _,_,.iU=>.iU
 | _,_,.mN=>.mN
 | _,_,.lZ h ho=>let ⟨_,h3,h4⟩:=e.obj _ _ h; .lZ h3 (ho.mono h4)
 | _,_,.lA h ho=>let ⟨_,h3,h4⟩:=e.obj _ _ h; .lA h3 (ho.mono h4)
 | _,_,.list h hl hc hk=>.list (h.mono e) hl hc (hk.mono e)
 | _,_,.jO h hc=>.jO (e.b7 h) hc
 | _,_,.iN h ho=>let ⟨_,h3,h4⟩:=e.obj _ _ h; .iN h3 (ho.mono h4)
 | _,_,.dH h ho hc=>let ⟨_,h3,h4⟩:=e.obj _ _ h; .dH h3 (ho.mono h4) hc
 | _,_,.gp h ho=>let ⟨_,h3,h4⟩:=e.obj _ _ h; .gp h3 (ho.mono h4)
 | _,_,.j9=>.j9
 | _,_,.map h=>.map (e.b7 h)
 | _,_,.cE=>.cE
 | _,_,.fn h h'=>.fn (h.mono e) (h'.mono e)
 | _,_,.yield h=>.yield (e.b7 h)
 | _,_,.nQ=>.nQ
 | _,_,.iface h=>.iface (h.mono e)
theorem aM.mono {R R':ao} {w w':World} (e:Ext R w R' w'):∀ {l:List AV} {cs:List Value},aM R w l cs→aM R' w' l cs
 | _,_,.nil=>.nil
 | _,_,.cons h t=>.cons (h.mono e) (t.mono e)
theorem fY.mono {R R':ao} {w w':World} (e:Ext R w R' w'):∀ {b o sz:Nat} {l:List AV},fY R w b o sz l→fY R' w' b o sz l
 | _,_,_,_,.nil=>.nil
 | _,_,_,_,.cons hl ht hk h t=>.cons hl ht hk (h.mono e) (t.mono e)
theorem dO.mono {R R':ao} {w w':World} (e:Ext R w R' w'):∀ {b o:Nat} {l:List AV},dO R w b o l→dO R' w' b o l
 | _,_,_,.nil=>.nil
 | _,_,_,.cons hc h1 hi h t=>.cons ((e.cell _ _ hi).trans hc) h1 (e.I _ _ hi) (h.mono e) (t.mono e)
end
end Go.Am
namespace Go.Am
open Go
section lists
variable {α:Type}
theorem bc (l:List α) (n:Nat):nth l n=l[n]?:=by
 induction l generalizing n with
 | nil=>simp [nth]
 | cons a l ih=>cases n <;> simp [nth,ih]
theorem fu (l:List α) (n:Nat) (x:α):aB l n x=l.set n x:=by
 induction l generalizing n with
 | nil=>simp [aB]
 | cons a l ih=>cases n <;> simp [aB,ih]
theorem bP {l:List α} {n:Nat} {x:α} (h:nth l n=some x):n < l.length:=by
 rw [bc] at h
 exact (List.getElem?_eq_some_iff.1 h).1
theorem aL {l:List α} {n:Nat} {x y:α} (h:nth l n=some y):nth (aB l n x) n=some x:=by
 have:=bP h
 rw [bc,fu,List.getElem?_set_self this]
theorem bM {l:List α} {n m:Nat} {x:α} (h:n≠m):nth (aB l n x) m=nth l m:=by
 rw [bc,fu,bc,List.getElem?_set_ne h]
theorem dp {l:List α} {n m:Nat} {x y:α} (h:nth (aB l n x) m=some y):(n=m∧y=x∧m < l.length)∨(n≠m∧nth l m=some y):=by
 by_cases e:n=m
 ·subst e
  have hl:=bP h
  rw [fu,List.length_set] at hl
  rw [bc,fu,List.getElem?_set_self hl] at h
  exact .inl ⟨rfl,(Option.some.inj h).symm,hl⟩
 ·rw [bM e] at h
  exact .inr ⟨e,h⟩
@[simp] theorem hY (l:List α) (n:Nat) (x:α):(aB l n x).length=l.length:=by rw [fu,List.length_set]
theorem eH (l:List α) (x:α):nth (l++[x]) l.length=some x:=by rw [bc]; simp
theorem dq {l:List α} {n:Nat} {y x:α} (h:nth l n=some y):nth (l++[x]) n=some y:=by
 have:=bP h
 rw [bc] at *
 rw [List.getElem?_append_left this]
 exact h
theorem aA {l:List α} {n:Nat} {y x:α} (h:nth (l++[x]) n=some y):nth l n=some y∨(n=l.length∧y=x):=by
 rw [bc] at *
 by_cases e:n < l.length
 ·rw [List.getElem?_append_left e] at h; exact .inl h
 ·rw [List.getElem?_append_right (by omega)] at h
  have hl:=(List.getElem?_eq_some_iff.1 h).1
  simp at hl
  have:n - l.length=0:=by omega
  rw [this] at h
  simp at h
  exact .inr ⟨by omega,h.symm⟩
theorem jj:∀ {l:List α} {n:Nat} {x:α},nth l n=some x→aB l n x=l
 | [],_,_,h=>by cases h
 | a :: l,0,x,h=>by cases h; rfl
 | a :: l,n+1,x,h=>by
  show a :: aB l n x=a :: l
  rw [jj (show nth l n=some x from h)]
end lists
def S7 (R:ao) (w:World) (Xk:bj→Array Value→Prop) (busy:Bool) (pending:Option Code) (ah:bj) (n:Nat) (params:List Tmp) (assign body:Code) (defers:Nat) (done:Bool) (b:Nat):Prop:=
 ∃ (r:Loop) (db:Nat),w.heap[b]?=some (.loop r)∧r.state=(if done then .done else if busy then .busy else .ready)∧r.pending=pending ∧
  Xk ah r.tmps∧r.tmps.size=n∧r.params=⟨params⟩∧r.assign=assign∧r.body=body∧r.defers=db∧nth R.obj defers=some (.b7 db)
def pS (R:ao) (w:World) (β:Nat→Nat):SV→Value→Prop
 | .none,_=>True
 | .v a,c=>Rel R w a c
 | .lp k off,c=>c=.pointer (some ⟨β k,off,none⟩)
def nZ (R:ao) (w:World) (β:Nat→Nat) (ah:bj) (tmps:Array Value):Prop:=
 ∀ i,lk ah i≠.none→∃ c,tmps[i]?=some c∧pS R w β (lk ah i) c
def FR:bj→Bool
 | []=>true
 | .put _ (.lp _ _) :: _=>false
 | _ :: l=>FR l
def dw (R:ao) (w:World):List (AV × AV)→List MapEntry→Prop
 | [],[]=>True
 | (k,v) :: l,e :: es=>Rel R w k e.key∧Rel R w v e.val∧dw R w l es
 | _,_=>False
def zh (R:ao) (w:World) (sz:Nat) (e:TypeId) (f:Nat):TR→Prop
 | .bJ=>f=0
 | .full f'=>f'=f
 | .tok f' b c=>f'=f∧∃ cur,w.heap[b]?=some (.cells cur e (0,0))∧f≤c∧c≤maxLen∧cur.size=c * sz∧∀ o,f * sz≤o→¬ R.I b o
def Xl (ts:List TR):Prop:=∀ i j f b c f' c',nth ts i=some (.tok f b c)→nth ts j=some (.tok f' b c')→i=j
def vu (R:ao) (w:World) (sz:Nat) (e:TypeId) (fs:List Nat) (ts:List TR):Prop:=
 ts.length=fs.length∧Xl ts∧∀ j f t,nth fs j=some f→nth ts j=some t→zh R w sz e f t
def jB (aC:Array MapEntry) (clock:Nat):Prop:=clock=aC.size∧∀ (i:Nat) (e:MapEntry),aC.toList[i]?=some e→e.born=i
def Xm (R:ao) (w:World) (qt n:Nat) (left:List Nat) (cur:Option Nat) (b:Nat):Prop:=
 ∃ bm seen c0,nth R.obj qt=some (.b7 bm)∧w.heap[b]?=some (.mapIter (some bm) n seen c0)∧(∀ i,i < n→(i∈left↔seen.contains i=false))∧(∀ i∈left,i < n)∧left.Nodup∧n≤c0∧∀ i,cur=some i→seen.back?=some i∧c0=n
def gG (R:ao) (w:World):GO→RO→Prop
 | .dead,.none=>True
 | .dead,.bJ=>True
 | .dead,.b7 b=>b < w.heap.size
 | .dead,.tok _ b _=>b < w.heap.size
 | .dead,.bk ts=>∀ j f b c,nth ts j=some (.tok f b c)→b < w.heap.size
 | .bk fs sz e,.bk ts=>vu R w sz e fs ts
 | .nK qt n left cur _,.b7 b=>Xm R w qt n left cur b
 | .tok f _ _,.bJ=>f=0
 | .row cs el,.b7 b=>∃ vs,w.heap[b]?=some (.cells ⟨vs⟩ el (0,0))∧aM R w cs vs∧(∀ v∈vs,v.oneCell'=true)∧∀ o,¬ R.I b o
 | .tok f sz e,.tok f' b c=>f'=f∧∃ cur,w.heap[b]?=some (.cells cur e (0,0))∧f≤c∧c≤maxLen∧cur.size=c * sz∧∀ o,f * sz≤o→¬ R.I b o
 | .dc es _ _,.bJ=>es=[]
 | .dc es sz e,.tok f b c=>f=es.length∧dB sz es∧∃ cur vs,w.heap[b]?=some (.cells cur e (0,0))∧f≤c∧c≤maxLen∧cur.size=c * sz∧(∀ o,¬ R.I b o)∧aM R w (ay es) vs∧(∀ v∈vs,v.oneCell'=true)∧cur.toList.take (f * sz)=vs
 | .map es,.b7 b=>∃ aC clock,w.heap[b]?=some (.map aC clock)∧dw R w es aC.toList∧jB aC clock
 | .gu l pos,.b7 b=>w.heap[b]?=some (.stringIter ⟨⟨l⟩⟩ pos)
 | .loop busy pending _ ah n params assign body defers done,.b7 b=>S7 R w (nZ R w (fun _=>0)) busy pending ah n params assign body defers done b∧FR ah=true
 | .defers o,.b7 b=>w.heap[b]?=some (.deferred (if o then some [] else none))
 | _,_=>False
def jC (E:Env) (R:ao) (w:World) (g:Nat) (cs:List AV):Prop:=
 dO R w g 0 cs∧(E.gx g=true→R.I g cs.length∧w.cell? ⟨g,cs.length,none⟩=none)
theorem jC.mono {E:Env} {R R':ao} {w w':World} {g:Nat} {cs:List AV} (h:jC E R w g cs) (e:Ext R w R' w'):jC E R' w' g cs:=
 ⟨h.1.mono e,fun hx=>⟨e.I _ _ (h.2 hx).1,(e.cell _ _ (h.2 hx).1).trans (h.2 hx).2⟩⟩
structure dz (E:Env) (R:ao) (w:World) (G:List GO):Prop where
 len:R.obj.length=G.length
 obj:∀ id go ro,nth G id=some go→nth R.obj id=some ro→gG R w go ro
 inj:∀ i j ri rj b,nth R.obj i=some ri→nth R.obj j=some rj→ri.has b→rj.has b→i=j
 wf:∀ b o,R.I b o→b < w.heap.size
 cb:∀ g cs,E.cb g=some cs→jC E R w g cs
 lo:E.lo≤w.drawn
def Live (R:ao) (b:Nat):Prop:=∃ id ro,nth R.obj id=some ro∧ro.has b
structure Np (R:ao) (w:World) (β:Nat→Nat) (boxes:cJ):Prop where
 box:∀ k cs,dv boxes k=some cs→(∃ vs el,w.heap[β k]?=some (.cells ⟨vs⟩ el (0,0))∧aM R w cs vs∧(∀ v∈vs,v.oneCell'=true))∧(∀ o,¬ R.I (β k) o)∧¬ Live R (β k)
 inj:∀ k k' cs cs',dv boxes k=some cs→dv boxes k'=some cs'→β k=β k'→k=k'
def pT (R:ao):List Nat→List Deferred→Prop
 | [],[]=>True
 | id :: l,d :: ds=>(∃ b,nth R.obj id=some (.b7 b)∧d={ target:=.collected b,args:=#[] })∧pT R l ds
 | _,_=>False
structure bn (E:Env) (R:ao) (w:World) (β:Nat→Nat) (s:St) (a:Act):Prop where
 g:dz E R w s.G
 b:Np R w β s.boxes
 t:nZ R w β s.ah a.tmps
 n:a.tmps.size=s.n
 d:pT R s.marks a.defers
def Own (R:ao) (β:Nat→Nat) (boxes:cJ) (b:Nat):Prop:=
 Live R b∨∃ k cs,dv boxes k=some cs∧β k=b
structure Step (R:ao) (w:World) (β:Nat→Nat) (bx:cJ) (R':ao) (w':World) (β':Nat→Nat) (I1:cJ):Prop where
 ext:Ext R w R' w'
 os:w'.os=w.os
 tape:w'.tape=w.tape
 output:w'.output=w.output
 size:w.heap.size≤w'.heap.size
 bE:∀ b,b < w.heap.size→¬ Own R β bx b→w'.heap[b]?=w.heap[b]?
 own:∀ b,b < w.heap.size→Own R' β' I1 b→Own R β bx b
 im:∀ b o,R'.I b o→b < w.heap.size→¬ Own R β bx b→R.I b o
theorem Step.refl (R:ao) (w:World) (β:Nat→Nat) (bx:cJ):Step R w β bx R w β bx:=
 ⟨Ext.refl R w,rfl,rfl,rfl,Nat.le_refl _,fun _ _ _=>rfl,fun _ _ h=>h,fun _ _ h _ _=>h⟩
theorem Step.trans {R R1 R2:ao} {w w1 w2:World} {β β1 β2:Nat→Nat} {x x1 x2:cJ}
  (h:Step R w β x R1 w1 β1 x1) (k:Step R1 w1 β1 x1 R2 w2 β2 x2):Step R w β x R2 w2 β2 x2 where
 ext:=h.ext.trans k.ext
 os:=k.os.trans h.os
 tape:=k.tape.trans h.tape
 output:=k.output.trans h.output
 size:=Nat.le_trans h.size k.size
 bE:=fun b hb hn=>(k.bE b (Nat.lt_of_lt_of_le hb h.size) (fun ho=>hn (h.own b hb ho))).trans (h.bE b hb hn)
 own:=fun b hb ho=>h.own b hb (k.own b (Nat.lt_of_lt_of_le hb h.size) ho)
 im:=fun b o hi hb hn=>h.im b o (k.im b o hi (Nat.lt_of_lt_of_le hb h.size) (fun ho=>hn (h.own b hb ho))) hb hn
theorem pS.mono {R R':ao} {w w':World} {β:Nat→Nat} (e:Ext R w R' w') {x:SV} {c:Value} (h:pS R w β x c):pS R' w' β x c:=by
 cases x with
 | none=>trivial
 | v a=>exact Rel.mono e h
 | lp k off=>exact h
theorem rr (n:Nat):Nat.beq n n=true:=Nat.beq_refl n
theorem mO {n m:Nat} (h:n≠m):Nat.beq n m=false:=by
 cases hb:Nat.beq n m with
 | true=>exact absurd (Nat.eq_of_beq_eq_true hb) h
 | false=>rfl
theorem aD (l:bj) (d:Nat) (x:SV):lk (.put d x :: l) d=x:=by simp [lk]
theorem aR {l:bj} {d t:Nat} {x:SV} (h:d≠t):lk (.put d x :: l) t=lk l t:=by simp [lk,mO h]
theorem FT {l:bj} {d t:Nat}:(lk (.kill d :: l) t=lk l t∧∀ k off,lk l t=.lp k off→k≠d)∨lk (.kill d :: l) t=.none:=by
 simp only [lk]
 cases h:lk l t with
 | none=>exact .inr rfl
 | v a=>exact .inl ⟨rfl,fun _ _ e=>by cases e⟩
 | lp k off=>
  by_cases hk:k=d
  ·subst hk
   exact .inr (by simp)
  ·exact .inl ⟨by simp [mO hk],fun k' fF e=>by cases e; exact hk⟩
theorem I2 (l:cJ) (d:Nat) (cs:List AV):dv ((d,cs) :: l) d=some cs:=by simp [dv]
theorem eI {l:cJ} {d k:Nat} {cs cs':List AV} (h:dv ((d,cs) :: l) k=some cs'):(d=k∧cs'=cs)∨(d≠k∧dv l k=some cs'):=by
 by_cases e:d=k
 ·subst e
  rw [I2] at h
  exact .inl ⟨rfl,(Option.some.inj h).symm⟩
 ·simp only [dv,mO e,cond_false] at h
  exact .inr ⟨e,h⟩
theorem Nq {l:cJ} (h:l.all (fun p=>aH p.2)=true) {k:Nat} {cs:List AV} (hk:dv l k=some cs):aH cs=true:=by
 induction l with
 | nil=>simp [dv] at hk
 | cons x l ih=>
  obtain ⟨d,c⟩:=x
  simp only [List.all_cons,Bool.and_eq_true] at h
  rcases eI hk with ⟨_,rfl⟩ | ⟨_,hk⟩
  ·exact h.1
  ·exact ih h.2 hk
theorem nZ.put {R:ao} {w:World} {β:Nat→Nat} {ah:bj} {a:Act} (h:nZ R w β ah a.tmps) {d:Tmp} {x:SV} {c:Value} (hd:d < a.tmps.size) (hx:pS R w β x c) :
  nZ R w β (.put d x :: ah) (a.put (some d) c).tmps:=by
 intro i hi
 by_cases e:d=i
 ·subst e
  rw [aD]
  exact ⟨c,by simp [Act.put,hd],hx⟩
 ·rw [aR e] at hi ⊢
  obtain ⟨c',h1,h2⟩:=h i hi
  refine ⟨c',?_,h2⟩
  simp only [Act.put]
  rw [Array.getElem?_setIfInBounds_ne e]
  exact h1
theorem bn.put {E:Env} {R:ao} {w:World} {β:Nat→Nat} {s:St} {a:Act} (h:bn E R w β s a) (dst:Option Tmp) {x:SV} {c:Value} (hx:pS R w β x c) :
  bn E R w β (s.put dst x) (a.put dst c):=by
 cases dst with
 | none=>exact h
 | some d=>
  simp only [St.put]
  cases hb:Nat.blt d s.n with
  | true=>
   have hd:d < a.tmps.size:=by rw [h.n]; exact Nat.le_of_ble_eq_true hb
   exact ⟨h.g,h.b,h.t.put hd hx,by simp [Act.put,h.n],h.d⟩
  | false=>
   have hd:¬ d < a.tmps.size:=by
    rw [h.n]
    intro bV
    have:Nat.blt d s.n=true:=Nat.ble_eq_true_of_le bV
    rw [this] at hb
    cases hb
   have he:a.put (some d) c=a:=by
    simp only [Act.put]
    rw [Array.setIfInBounds_eq_of_size_le (Nat.not_lt.1 hd)]
   rw [he]
   exact h
theorem ru {R:ao} {w:World} {v:Value} {a:AV} (h:q9 v=some a):Rel R w a v∧v.oneCell'=true:=by
 unfold q9 at h
 split at h <;> cases h
 ·exact ⟨.bool _,rfl⟩
 ·exact ⟨.int _ _,rfl⟩
 ·rename_i s
  exact ⟨.str s.data.toList,rfl⟩
 ·exact ⟨.jA,rfl⟩
 ·exact ⟨.ir,rfl⟩
 ·exact ⟨.j9,rfl⟩
 ·exact ⟨.cE,rfl⟩
 ·exact ⟨.nQ,rfl⟩
theorem mP {R:ao} {w:World}:∀ {vs:List Value} {l:List AV},lV vs=some l→aM R w l vs∧∀ v∈vs,v.oneCell'=true
 | [],l,h=>by simp [lV] at h; subst h; exact ⟨.nil,by simp⟩
 | v :: vs,l,h=>by
  unfold lV at h
  split at h
  ·rename_i a r h1 h2
   cases h
   obtain ⟨k1,k2⟩:=ru (R:=R) (w:=w) h1
   obtain ⟨k3,k4⟩:=mP (R:=R) (w:=w) h2
   exact ⟨.cons k1 k3,by simp [k2]; exact k4⟩
  ·cases h
theorem tL {R:ao} {w:World} {v:Value} {a:AV} (h:ra v=some a):Rel R w a v:=by
 unfold ra at h
 split at h
 ·rename_i cs
  split at h
  ·rename_i l hl
   cases h
   obtain ⟨k1,k2⟩:=mP (R:=R) (w:=w) hl
   exact .agg (vs:=cs.toList) k1 k2
  ·cases h
 ·rename_i cs
  split at h
  ·rename_i l hl
   cases h
   obtain ⟨k1,_⟩:=mP (R:=R) (w:=w) hl
   exact .bi (vs:=cs.toList) k1
  ·cases h
 ·exact (ru h).1
theorem aU {E:Env} {R:ao} {w:World} {β:Nat→Nat} {s:St} {a:Act} (h:bn E R w β s a) (x:Operand):pS R w β (bI E s.ah x) (a.eval x):=by
 cases x with
 | tmp t=>
  simp only [bI,Act.eval]
  by_cases hn:lk s.ah t=.none
  ·rw [hn]; trivial
  ·obtain ⟨c,h1,h2⟩:=h.t t hn
   have:a.tmps.getD t undef=c:=by simp [Array.getD_eq_getD_getElem?,h1]
   rw [this]
   exact h2
 | const v=>
  simp only [bI,Act.eval]
  cases hc:ra v with
  | none=>trivial
  | some y=>exact tL hc
 | global g=>
  simp only [bI,Act.eval]
  cases hg:E.cb g with
  | none=>trivial
  | some cs=>exact Rel.ep (h.g.cb g cs hg).1
 | func f=>exact Rel.fn .nil .nil
end Go.Am
