/- The abstract machine: its values,its state,and what each operation does (definitions alone). -/
import Derived.CallsIn
import Derived.RangeFuncLeaves
import Derived.Laws.AppendOwn
set_option linter.all false
namespace Go.Am
open Go
inductive LK where
 | nil | full | jP | own (id:Nat) | bf (id j:Nat)
inductive AV where
 | bool (b:Bool)
 | int (k:IntKind) (n:Int)
 | str (s:List UInt8)
 | agg (cs:List AV)
 | bh (vs:List AV)
 | iA
 | ptr (id off:Nat)
 | ep (cs:List AV)
 | list (k:LK) (sz:Nat) (es:List AV)
 | jS (id off sz len cap:Nat)
 | dX (id f off sz len:Nat)
 | gp (id f i off sz:Nat) (t:TypeId)
 | kr
 | map (id:Nat)
 | cz
 | fn (f:FuncId) (first cap:List AV)
 | yield (id:Nat)
 | nG
 | iface (t:TypeId) (v:AV)
def LK.closed:LK→Bool
 | .own _=>false
 | .bf _ _=>false
 | _=>true
mutual
def AV.closed:AV→Bool
 | .agg cs=>ba cs
 | .bh cs=>ba cs
 | .ep cs=>ba cs
 | .list k _ _=>k.closed
 | .fn _ x y=>ba x&&ba y
 | .iface _ v=>v.closed
 | .ptr _ _=>false
 | .jS _ _ _ _ _=>false
 | .dX _ _ _ _ _=>false
 | .gp _ _ _ _ _ _=>false
 | .map _=>false
 | .yield _=>false
 | _=>true
def ba:List AV→Bool
 | []=>true
 | a :: l=>a.closed&&ba l
end
mutual
def AV.gD:AV→AV
 | .agg cs=>.agg (lj cs)
 | .bh cs=>.bh (lj cs)
 | .list (.own _) sz es=>.list .jP sz es
 | .list (.bf _ _) sz es=>.list .jP sz es
 | v=>v
def lj:List AV→List AV
 | []=>[]
 | a :: l=>a.gD :: lj l
end
inductive SV where
 | none
 | v (a:AV)
 | lp (key off:Nat)
inductive Ent where
 | put (d:Nat) (x:SV)
 | kill (d:Nat)
abbrev bc:=List Ent
abbrev cE:=List (Nat × List AV)
def lk:bc→Nat→SV
 | [],_=>.none
 | .put d x :: l,t=>bif Nat.beq d t then x else lk l t
 | .kill d :: l,t=>match lk l t with
  | .lp k off=>bif Nat.beq k d then .none else .lp k off
  | x=>x
def dm:cE→Nat→Option (List AV)
 | [],_=>none
 | (d,cs) :: l,k=>bif Nat.beq d k then some cs else dm l k
inductive GO where
 | dead
 | row (cs:List AV) (el:TypeId)
 | tok (f sz:Nat) (e:TypeId)
 | bf (fs:List Nat) (sz:Nat) (e:TypeId)
 | nB (qb n:Nat) (left:List Nat) (cur:Option Nat) (t:TypeId)
 | dG (es:List AV) (sz:Nat) (el:TypeId)
 | map (es:List (AV × AV))
 | gB (s:List UInt8) (pos:Nat)
 | loop (busy:Bool) (pending:Option Code) (fn:FuncId) (af:bc) (n:Nat) (params:List Tmp) (assign body:Code) (defers:Nat) (done:Bool)
 | defers (open_:Bool)
structure St where
 af:bc
 boxes:cE
 G:List GO
 marks:List Nat
 ro:Option Nat
 n:Nat
def nth {α:Type}:List α→Nat→Option α
 | [],_=>none
 | a :: _,0=>some a
 | _ :: l,n+1=>nth l n
def aD {α:Type}:List α→Nat→α→List α
 | [],_,_=>[]
 | _ :: l,0,x=>x :: l
 | a :: l,n+1,x=>a :: aD l n x
def takeN {α:Type}:Nat→List α→Option (List α)
 | 0,_=>some []
 | _+1,[]=>none
 | n+1,a :: l=>match takeN n l with
  | some r=>some (a :: r)
  | none=>none
def fE {α:Type}:Nat→List α→List α
 | 0,l=>l
 | _+1,[]=>[]
 | n+1,_ :: l=>fE n l
def Fs {α:Type} (off n:Nat) (l:List α):Option (List α):=takeN n (fE off l)
def bZ {α:Type}:List α→Nat→List α→List α
 | l,_,[]=>l
 | [],_,_ :: _=>[]
 | _ :: l,0,y :: ys=>y :: bZ l 0 ys
 | a :: l,n+1,y :: ys=>a :: bZ l n (y :: ys)
def AV.cells:AV→List AV
 | .agg cs=>cs
 | v=>[v]
def AV.one:AV→Bool
 | .agg _=>false
 | .bh _=>false
 | _=>true
def qR:Value→Option AV
 | .bool b=>some (.bool b)
 | .int k n=>some (.int k n)
 | .string s=>some (.str s.data.toList)
 | .slice none 0 0=>some (.list .nil 0 [])
 | .pointer none=>some .iA
 | .map none=>some .kr
 | .nilFunc=>some .cz
 | .nilIface=>some .nG
 | _=>none
def lU:List Value→Option (List AV)
 | []=>some []
 | v :: vs=>match qR v,lU vs with
  | some a,some l=>some (a :: l)
  | _,_=>none
def qS:Value→Option AV
 | .agg cs=>match lU cs.toList with
  | some l=>some (.agg l)
  | none=>none
 | .tuple cs=>match lU cs.toList with
  | some l=>some (.bh l)
  | none=>none
 | v=>qR v
inductive TK where
 | sc
 | int (k:IntKind)
 | str
 | st (fs:List (Nat × Nat × Bool))
 | arr (len esz:Nat) (Zv:Bool)
 | sl (elem esz:Nat) (Zv:Bool) (bq:Nat) (VP:Option AV)
 | map (key elem:TypeId) (VP:Option AV)
mutual
inductive EK where
 | no
 | bool
 | int
 | str
 | st (fs:QP)
inductive QP where
 | nil
 | cons (off sz:Nat) (ag:Bool) (k:EK) (rest:QP)
end
structure TI where
 k:TK
 size:Nat
 agg:Bool
 zero:Option AV
 ek:EK
def jA:TypeDesc→Bool
 | .struct _=>true
 | .array _ _=>true
 | _=>false
def fieldsOf (P:Program):List Field→Option (List (Nat × Nat × Bool))
 | []=>some []
 | f :: fs=>match P.info? f.type,P.underlying f.type,fieldsOf P fs with
  | some i,some u,some l=>some ((f.offset,i.size,jA u) :: l)
  | _,_,_=>none
def gd (i:TypeInfo):Option AV:=match i.zero with
 | some z=>qS z
 | none=>none
def pz (P:Program):TypeDesc→Option TK
 | .int k=>some (.int k)
 | .string=>some .str
 | .struct fs=>match fieldsOf P fs.toList with
  | some l=>some (.st l)
  | none=>none
 | .array n e=>match P.info? e,P.underlying e with
  | some i,some u=>some (.arr n i.size (jA u))
  | _,_=>none
 | .slice e=>match P.info? e,P.underlying e with
  | some i,some u=>some (.sl e i.size (jA u) i.bytes (gd i))
  | _,_=>none
 | .map k e=>match P.info? e with
  | some i=>some (.map k e (gd i))
  | none=>none
 | _=>some .sc
def DF (P:Program) (ek:TypeId→EK):List Field→Option QP
 | []=>some .nil
 | f :: fs => if f.name == "_" then none else match P.info? f.type, P.underlying f.type, DF P ek fs with
  | some i,some u,some l=>some (.cons f.offset i.size (jA u) (ek f.type) l)
  | _,_,_=>none
def vy (sz:Nat) (ag:Bool) (k:EK):Nat→Nat→QP
 | 0,_=>.nil
 | n+1,i=>.cons (i * sz) sz ag k (vy sz ag k n (i+1))
def pA (P:Program):Nat→TypeId→EK
 | 0,_=>.no
 | n+1,t=>match P.underlying t with
  | some .bool=>.bool
  | some (.int _)=>.int
  | some .string=>.str
  | some (.struct fs)=>if P.stoodInHeld t then .no else match DF P (pA P n) fs.toList with
   | some l=>.st l
   | none=>.no
  | some (.array m e)=>match P.info? e,P.underlying e with
   | some i,some u=>.st (vy i.size (jA u) (pA P n e) m 0)
   | _,_=>.no
  | _=>.no
def tG (P:Program) (t:TypeId):EK:=match pA P 6 t with
 | .st l=>if P.eqGuardType P.depth t then .no else .st l
 | k=>k
def GJ (P:Program) (t:TypeId):Option TI:=
 match P.info? t,P.underlying t with
 | some i,some u=>match pz P u with
  | some k=>some { k:=k,size:=i.size,agg:=jA u,zero:=gd i,ek:=tG P t }
  | none=>none
 | _,_=>none
def IC:AV→AV→Bool
 | .bool a,.bool b=>a == b
 | .int k a,.int k' b=>(k == k')&&a == b
 | .str a,.str b=>a == b
 | .iA,.iA=>true
 | .ptr i o,.ptr i' o'=>Nat.beq i i'&&Nat.beq o o'
 | .kr,.kr=>true
 | .map i,.map i'=>Nat.beq i i'
 | .cz,.cz=>true
 | .nG,.nG=>true
 | .jS a b c d e,.jS a' b' c' d' e'=>Nat.beq a a'&&Nat.beq b b'&&Nat.beq c c'&&Nat.beq d d'&&Nat.beq e e'
 | .dX a b c d e,.dX a' b' c' d' e'=>Nat.beq a a'&&Nat.beq c c'&&Nat.beq d d'&&(Nat.beq b b'&&Nat.beq e e')
 | .gp a b c d e t,.gp a' b' c' d' e' t'=>Nat.beq a a'&&Nat.beq b b'&&Nat.beq c c'&&Nat.beq d d'&&Nat.beq e e'&&Nat.beq t t'
 | _,_=>false
mutual
def ej:AV→AV→Bool
 | .fn f x y,.fn f' x' y'=>Nat.beq f f'&&lV x x'&&lV y y'
 | .agg cs,.agg cs'=>lV cs cs'
 | .ep cs,.ep cs'=>lV cs cs'
 | .bh cs,.bh cs'=>lV cs cs'
 | .list .nil a es,.list .nil a' es'=>Nat.beq a a'&&lV es es'
 | .list .full a es,.list .full a' es'=>Nat.beq a a'&&lV es es'
 | .list .jP a es,.list .jP a' es'=>Nat.beq a a'&&lV es es'
 | .list (.own i) a es,.list (.own i') a' es'=>Nat.beq i i'&&Nat.beq a a'&&lV es es'
 | .list (.bf i j) a es,.list (.bf i' j') a' es'=>Nat.beq i i'&&Nat.beq j j'&&Nat.beq a a'&&lV es es'
 | a,b=>IC a b
def lV:List AV→List AV→Bool
 | [],[]=>true
 | a :: l,b :: r=>ej a b&&lV l r
 | _,_=>false
end
mutual
inductive aO
 | int (k:IntKind)
 | bool
 | str
 | agg (ps:aP)
 | bh (ps:aP)
 | list (sz:Nat) (p:aO)
 | own (id sz:Nat) (p:aO)
 | bf (id sz:Nat) (p:aO)
 | mF (v:AV)
 | two (u v:AV)
inductive aP
 | nil
 | cons (p:aO) (ps:aP)
end
def VQ (s:Bool) (α β:Type):Type:=match s with
 | true=>α
 | false=>α × β
def aP.isNil:aP→Bool
 | .nil=>true
 | .cons _ _=>false
mutual
def aO.T:aO→Type
 | .int _=>Int
 | .bool=>Bool
 | .str=>List UInt8
 | .agg ps=>ps.T
 | .bh ps=>ps.T
 | .list _ p=>List p.T
 | .own _ _ p=>List p.T
 | .bf _ _ p=>Nat × List p.T
 | .mF _=>Unit
 | .two _ _=>Bool
def aP.T:aP→Type
 | .nil=>Unit
 | .cons p ps=>VQ ps.isNil p.T ps.T
end
mutual
def aO.enc:(p:aO)→p.T→AV
 | .int k,(n:Int)=>.int k n
 | .bool,(b:Bool)=>.bool b
 | .str,(s:List UInt8)=>.str s
 | .agg ps,x=>.agg (ps.enc x)
 | .bh ps,x=>.bh (ps.enc x)
 | .list sz p,(xs:List p.T)=>.list .jP sz (xs.map p.enc)
 | .own id sz p,(xs:List p.T)=>.list (.own id) sz (xs.map p.enc)
 | .bf id sz p,(x:Nat × List p.T)=>.list (.bf id x.1) sz (x.2.map p.enc)
 | .mF v,_=>v
 | .two u v,(b:Bool)=>bif b then v else u
def aP.enc:(ps:aP)→ps.T→List AV
 | .nil,_=>[]
 | .cons p .nil,x=>[p.enc x]
 | .cons p (.cons q ps),x=>p.enc x.1 :: (aP.cons q ps).enc x.2
end
def RW:IntKind→IntKind→Bool:=fun a b=>decide (a=b)
def AV.jA:AV→List AV
 | .agg cs=>cs
 | _=>[]
def AV.RX:AV→List AV
 | .bh cs=>cs
 | _=>[]
def AV.dS:AV→List AV
 | .list _ _ es=>es
 | _=>[]
def AV.Zw:AV→Nat
 | .list (.bf _ j) _ _=>j
 | _=>0
def AV.kZ:AV→Int
 | .int _ n=>n
 | _=>0
def AV.VR:AV→Bool
 | .bool b=>b
 | _=>false
def AV.RY:AV→List UInt8
 | .str s=>s
 | _=>[]
def eu:List AV→AV
 | a :: _=>a
 | []=>.iA
def ID:List AV→List AV
 | _ :: l=>l
 | []=>[]
mutual
def aO.bo:(p:aO)→AV→p.T
 | .int _,v=>v.kZ
 | .bool,v=>v.VR
 | .str,v=>v.RY
 | .agg ps,v=>ps.bo v.jA
 | .bh ps,v=>ps.bo v.RX
 | .list _ p,v=>v.dS.map p.bo
 | .own _ _ p,v=>v.dS.map p.bo
 | .bf _ _ p,v=>(v.Zw,v.dS.map p.bo)
 | .mF _,_=>()
 | .two _ v,a=>ej a v
def aP.bo:(ps:aP)→List AV→ps.T
 | .nil,_=>()
 | .cons p .nil,l=>p.bo (eu l)
 | .cons p (.cons q ps),l=>(p.bo (eu l),(aP.cons q ps).bo (ID l))
end
def allFit (f:AV→Bool):List AV→Bool
 | []=>true
 | a :: l=>f a&&allFit f l
mutual
def aO.fits:aO→AV→Bool
 | .int k,v=>match v with
  | .int k' _=>RW k k'
  | _=>false
 | .bool,v=>match v with
  | .bool _=>true
  | _=>false
 | .str,v=>match v with
  | .str _=>true
  | _=>false
 | .agg ps,v=>match v with
  | .agg cs=>ps.fits cs
  | _=>false
 | .bh ps,v=>match v with
  | .bh cs=>ps.fits cs
  | _=>false
 | .list sz p,v=>match v with
  | .list _ bE es=>(Nat.beq sz bE || es.isEmpty)&&allFit p.fits es
  | _=>false
 | .own id sz p,v=>match v with
  | .list (.own jz) bE es=>(Nat.beq id jz&&Nat.beq sz bE)&&allFit p.fits es
  | _=>false
 | .bf id sz p,v=>match v with
  | .list (.bf jz _) bE es=>(Nat.beq id jz&&Nat.beq sz bE)&&allFit p.fits es
  | _=>false
 | .mF v,u=>ej u v
 | .two u v,a=>ej a u || ej a v
def aP.fits:aP→List AV→Bool
 | .nil,l=>l.isEmpty
 | .cons p ps,l=>match l with
  | a :: l=>p.fits a&&ps.fits l
  | []=>false
end
def aO.dec (p:aO) (v:AV):Option p.T:=bif p.fits v then some (p.bo v) else none
def aP.dec (ps:aP) (l:List AV):Option ps.T:=bif ps.fits l then some (ps.bo l) else none
structure Env where
 P:Program
 ti:TypeId→Option TI
 b6:Nat→Option (List AV)
 yB:FuncId→Tmp→Bool
 MU:TypeId→Option aO
 lo:Nat:=0
 gho:FuncId→Tmp→List (Option Nat × Nat × TypeId):=fun _ _=>[]
 Yx:TypeId→Option aO:=fun _=>none
 gx:Nat→Bool:=fun _=>false
 GK:∀ t i,ti t=some i→GJ P t=some i
 mixed:P.follows .mixedOrders=true
 nN:∀ g cs,b6 g=some cs→ba cs=true
def bw (E:Env) (af:bc):Operand→SV
 | .tmp t=>lk af t
 | .const v=>match qS v with
  | some a=>.v a
  | none=>.none
 | .global g=>match E.b6 g with
  | some cs=>.v (.ep cs)
  | none=>.none
 | .func f=>.v (.fn f [] [])
def St.put (s:St) (dst:Option Tmp) (x:SV):St:=match dst with
 | some d=>match Nat.blt d s.n with
  | true=>⟨.put d x :: s.af,s.boxes,s.G,s.marks,s.ro,s.n⟩
  | false=>s
 | none=>s
def fM:AV:=.bh []
def sF (agg:Bool) (cs:List AV):Option AV:=
 if agg then some (.agg cs) else match cs with
  | [c]=>some c
  | _=>none
def mG (s:St):SV→Option (List AV × Nat)
 | .lp k off=>match dm s.boxes k with
  | some cs=>some (cs,off)
  | none=>none
 | .v (.ptr id off)=>match nth s.G id with
  | some (.row cs _)=>some (cs,off)
  | _=>none
 | .v (.ep cs)=>some (cs,0)
 | _=>none
def zb (n:Nat):SV→Option SV
 | .lp k off=>some (.lp k (off+n))
 | .v (.ptr id off)=>some (.v (.ptr id (off+n)))
 | .v (.ep cs)=>some (.v (.ep (fE n cs)))
 | .v (.gp id f i off sz t)=>some (.v (.gp id f i (off+n) sz t))
 | _=>none
def Al (t:Bool):AV→AV→AV
 | .bool x,.bool y=>.bool (bif t then x else y)
 | .int k x,.int k' y=>if k=k' then .int k (bif t then x else y) else (bif t then .int k x else .int k' y)
 | a,b=>bif t then a else b
def Ft (ag:Bool) (off sz:Nat) (cs:List AV):Option AV:=
 if ag then (match Fs off sz cs with | some l=>sF true l | none=>none) else (match Fs off 1 cs with | some l=>sF false l | none=>none)
mutual
def k9:EK→AV→AV→Option Bool
 | .bool,.bool a,.bool b=>some (a == b)
 | .int,.int k a,.int k' b=>if k=k' then some (a == b) else none
 | .str,.str a,.str b=>some (a == b)
 | .st fs,.agg xs,.agg ys=>sG fs xs ys
 | _,_,_=>none
def sG:QP→List AV→List AV→Option Bool
 | .nil,_,_=>some true
 | .cons off sz ag k rest,xs,ys=>match Ft ag off sz xs,Ft ag off sz ys with
  | some a,some b=>match k9 k a b,sG rest xs ys with
   | some t,some u=>some (t&&u)
   | _,_=>none
  | _,_=>none
end
def GM (k:IntKind) (a b:Int):Int:=k.wrap (BitVec.ofInt k.bits a &&& BitVec.ofInt k.bits b).toNat
def Zx (k:IntKind) (a b:Int):Int:=k.wrap (BitVec.ofInt k.bits a ||| BitVec.ofInt k.bits b).toNat
def GN (k:IntKind) (a b:Int):Int:=k.wrap (BitVec.ofInt k.bits a ^^^ BitVec.ofInt k.bits b).toNat
def BN (op:BinOp) (x y:AV):Option (Bool × AV):=
 match x,y with
 | .int k a,.int k' b=>
  match op with
  | .shl=>some (decide (0≤b),.int k (k.wrap (a * 2 ^ (min b.toNat k.bits))))
  | .shr=>some (decide (0≤b),.int k (a.fdiv (2 ^ (min b.toNat k.bits))))
  | _=>if k=k' then
    match op with
    | .add=>some (true,.int k (k.wrap (a+b)))
    | .sub=>some (true,.int k (k.wrap (a - b)))
    | .mul=>some (true,.int k (k.wrap (a * b)))
    | .quo=>some (!(decide (b=0)),.int k (k.wrap (a.tdiv b)))
    | .rem=>some (!(decide (b=0)),.int k (a.tmod b))
    | .and=>some (true,.int k (GM k a b))
    | .or=>some (true,.int k (Zx k a b))
    | .xor=>some (true,.int k (GN k a b))
    | .eql=>some (true,.bool (a == b))
    | .neq=>some (true,.bool (a != b))
    | .lss=>some (true,.bool (a < b))
    | .leq=>some (true,.bool (a≤b))
    | .gtr=>some (true,.bool (a > b))
    | .geq=>some (true,.bool (a≥b))
    | _=>none
   else none
 | .str a,.str b=>
  match op with
  | .add=>some (decide (a.length+b.length≤9223372036854775807),.str (a++b))
  | .eql=>some (true,.bool (a == b))
  | .neq=>some (true,.bool (!(a == b)))
  | .lss=>some (true,.bool (Op.bytesLess a b))
  | .leq=>some (true,.bool (Op.bytesLess a b || a == b))
  | .gtr=>some (true,.bool (!(Op.bytesLess a b || a == b)))
  | .geq=>some (true,.bool (!(Op.bytesLess a b)))
  | _=>none
 | _,_=>none
end Go.Am
namespace Go.Am
open Go
def St.kill (s:St) (d:Nat):St:=⟨.kill d :: s.af,s.boxes,s.G,s.marks,s.ro,s.n⟩
def AV.aV:AV→Bool
 | .bh _=>false
 | _=>true
def St.dO (s:St) (o:GO):St:=⟨s.af,s.boxes,s.G++[o],s.marks,s.ro,s.n⟩
def St.bW (s:St) (G:List GO):St:=⟨s.af,s.boxes,G,s.marks,s.ro,s.n⟩
def St.uz (s:St) (d:Nat) (cs:List AV):St:=⟨s.af,(d,cs) :: s.boxes,s.G,s.marks,s.ro,s.n⟩
def fc (E:Env) (f:FuncId) (s:St) (dst:Option Tmp) (el:TypeId) (cs:List AV):Option (Bool × St):=
 match dst with
 | none=>none
 | some d=>
  if E.yB f d then some (true,(s.dO (.row cs el)).put (some d) (.v (.ptr s.G.length 0)))
  else match Nat.blt d s.n with
   | true=>some (true,((s.kill d).uz d cs).put (some d) (.lp d 0))
   | false=>none
def lS (E:Env) (af:bc):List Operand→Option (List AV)
 | []=>some []
 | x :: l=>match bw E af x,lS E af l with
  | .v a,some r=>some (a :: r)
  | _,_=>none
def MB (E:Env) (af:bc):List (Nat × Operand)→Option (List (Nat × AV))
 | []=>some []
 | (i,x) :: l=>match bw E af x,MB E af l with
  | .v a,some r=>some ((i,a) :: r)
  | _,_=>none
def placeOf:TK→Nat→Option (Nat × Nat)
 | .st fs,j=>match nth fs j with
  | some (o,sz,_)=>some (o,sz)
  | none=>none
 | .arr _ esz _,j=>some (j * esz,esz)
 | _,_=>none
def tH (place:Nat→Option (Nat × Nat)) (cells:List AV):List (Nat × AV)→Option (List AV)
 | []=>some cells
 | (i,v) :: rest=>match place i with
  | none=>none
  | some (off,sz)=>
   if v.aV&&Nat.beq v.cells.length sz&&Nat.ble (off+sz) cells.length then tH place (bZ cells off v.cells) rest else none
def BO (esz:Nat) (es:List AV):List (Nat × AV)→Option (List AV)
 | []=>some es
 | (i,v) :: rest=>
  if v.aV&&Nat.beq v.cells.length esz&&Nat.ble (i+1) es.length&&v.closed then BO esz (aD es i v) rest else none
def mH (E:Env) (s:St) (t:TypeId) (parts:List (Nat × Operand)):Option AV:=
 match E.ti t,MB E s.af parts with
 | some i,some ps=>match i.zero with
  | some z=>match tH (placeOf i.k) z.cells ps with
   | some cs=>if i.agg&&z.aV then some (.agg cs) else none
   | none=>none
  | none=>none
 | _,_=>none
def zd:List (Nat × AV)→List (Nat × AV)
 | []=>[]
 | (i,v) :: l=>(i,v.gD) :: zd l
def bX (E:Env) (s:St) (t:TypeId) (len:Nat) (parts:List (Nat × Operand)):Option AV:=
 match E.ti t,MB E s.af parts with
 | some i,some ps=>match i.k with
  | .sl _ esz _ _ (some z)=>
    if Nat.beq z.cells.length esz&&Nat.ble 1 esz&&Nat.ble (len * esz) 16777216&&z.aV&&z.closed then
     match BO esz (List.replicate len z) (zd ps) with
     | some es=>some (.list .full esz es)
     | none=>none
    else none
  | _=>none
 | _,_=>none
def qT (E:Env) (s:St) (t:TypeId) (p:SV):Option AV:=
 match E.ti t,mG s p with
 | some i,some (cs,off)=>match Fs off i.size cs with
  | some l=>sF i.agg l
  | none=>none
 | _,_=>none
def jB (E:Env) (s:St) (t:TypeId) (p x:SV):Option St:=
 match E.ti t,x with
 | some i,.v v=>
  if v.aV&&Nat.beq v.cells.length i.size then
   match p with
   | .lp k off=>match dm s.boxes k with
    | some cs=>if Nat.ble (off+v.cells.length) cs.length then some (s.uz k (bZ cs off v.cells)) else none
    | none=>none
   | .v (.ptr id off)=>match nth s.G id with
    | some (.row cs el)=>if Nat.ble (off+v.cells.length) cs.length then some (s.bW (aD s.G id (.row (bZ cs off v.cells) el))) else none
    | _=>none
   | _=>none
  else none
 | _,_=>none
def aj (es:List AV) (n:Nat):AV:=match nth es n with
 | some e=>e
 | none=>fM
def jd:List GO→Nat→TypeId→Nat→Option Nat
 | [],_,_,_=>none
 | .bf _ sz e :: G,bE,e',i=>match jd G bE e' (i+1) with
  | some j=>some j
  | none=>bif Nat.beq sz bE&&Nat.beq e e' then some i else none
 | _ :: G,bE,e',i=>jd G bE e' (i+1)
def aO.fin (G:List GO):aO→aO
 | .bf e sz p=>match jd G sz e 0 with
  | some id=>.bf id sz p
  | none=>.bf e sz p
 | .agg ps=>.agg (VS ps)
 | p=>p
where
 VS:aP→aP
  | .nil=>.nil
  | .cons p ps=>.cons (match p with
   | .bf e sz q=>match jd G sz e 0 with
    | some id=>.bf id sz q
    | none=>.bf e sz q
   | p=>p) (VS ps)
def QQ (E:Env) (G:List GO) (t:TypeId):Option aO:=match E.Yx t with
 | some p=>some (p.fin G)
 | none=>E.MU t
def vz (E:Env) (s:St) (id f i sz:Nat) (t:TypeId):Option (Bool × AV):=match nth s.G id with
 | some (.dG es bE _)=>match QQ E s.G t with
  | some p=>if Nat.beq sz bE then some (decide (f=es.length)&&decide (i < es.length)&&p.fits (aj es i),p.enc (p.bo (aj es i))) else none
  | none=>if Nat.beq sz bE then some (decide (f=es.length)&&decide (i < es.length),aj es i) else none
 | _=>none
def ze (E:Env) (s:St) (t:TypeId) (p:SV):Option (Bool × AV):=match p with
 | .v (.gp id f i off sz ty)=>match E.ti t,vz E s id f i sz ty with
  | some ti,some (c,v)=>match Fs off ti.size v.cells with
   | some l=>match sF ti.agg l with
    | some r=>some (c,r)
    | none=>none
   | none=>none
  | _,_=>none
 | p=>match qT E s t p with
  | some v=>some (true,v)
  | none=>none
def jC (E:Env) (s:St) (t:TypeId) (p x:SV):Option (Bool × St):=match p with
 | .v (.gp id f i off sz ty)=>match E.ti t,x,nth s.G id with
  | some ti,.v x,some (.dG es bE el)=>
   if x.aV&&Nat.beq x.cells.length ti.size&&Nat.beq sz bE then
    if Nat.beq off 0&&Nat.beq ti.size sz then some (decide (f=es.length)&&decide (i < es.length),s.bW (aD s.G id (.dG (aD es i x) bE el)))
    else match vz E s id f i sz ty with
     | some (c,.agg cs)=>if Nat.ble (off+ti.size) cs.length&&Nat.beq cs.length sz then some (c,s.bW (aD s.G id (.dG (aD es i (.agg (bZ cs off x.cells))) bE el))) else none
     | _=>none
   else none
  | _,_,_=>none
 | p=>match jB E s t p x with
  | some s'=>some (true,s')
  | none=>none
def ku (E:Env) (t:TypeId) (x ix:SV):Option (Bool × SV):=
 match E.ti t,ix with
 | some i,.v (.int _ n)=>match i.k,x with
  | .sl _ esz _ _ _,.v (.list _ sz es)=>if Nat.beq sz esz || es.isEmpty then
    match E.MU t with
    | some p=>some (decide (0≤n∧n < es.length)&&p.fits (aj es n.toNat),.v (.ep (p.enc (p.bo (aj es n.toNat))).cells))
    | none=>some (decide (0≤n∧n < es.length),.v (.ep (aj es n.toNat).cells))
   else none
  | .sl _ esz _ _ _,.v (.jS id off sz len _)=>if Nat.beq sz esz then some (decide (0≤n∧n < len),.v (.ptr id (off+n.toNat * sz))) else none
  | .sl _ esz _ _ _,.v (.dX id f off sz len)=>if Nat.beq sz esz then some (decide (0≤n∧n < len),.v (.gp id f (off+n.toNat) 0 sz t)) else none
  | .arr len esz _,.v (.ep cs)=>match E.MU t with
   | some p=>if Nat.beq esz 1&&Nat.ble len cs.length then some (decide (0≤n∧n < len)&&p.fits (aj cs n.toNat),.v (.ep [p.enc (p.bo (aj cs n.toNat))])) else none
   | none=>some (decide (0≤n∧n < len),.v (.ep (fE (n.toNat * esz) cs)))
  | .arr len esz _,p=>match zb (n.toNat * esz) p with
   | some q=>some (decide (0≤n∧n < len),q)
   | none=>none
  | _,_=>none
 | _,_=>none
def kv (E:Env) (t:TypeId) (x:SV) (j:Nat):Option SV:=
 match E.ti t with
 | some i=>match i.k with
  | .st fs=>match nth fs j with
   | some (o,sz,_)=>if Nat.ble 1 sz then zb o x else none
   | none=>none
  | _=>none
 | none=>none
def DG (E:Env) (t:TypeId) (x:SV) (j:Nat):Option AV:=
 match E.ti t,x with
 | some i,.v (.agg cs)=>match i.k with
  | .st fs=>match nth fs j with
   | some (o,sz,ag)=>if ag then (match Fs o sz cs with | some l=>sF true l | none=>none) else (match Fs o 1 cs with | some l=>sF false l | none=>none)
   | none=>none
  | _=>none
 | _,_=>none
def DH (E:Env) (t:TypeId) (x ix:SV):Option (Bool × AV):=
 match E.ti t,x,ix with
 | some i,.v (.str l),.v (.int _ n)=>match i.k with
  | .str=>some (decide (0≤n∧n < l.length),.int .u8 (l.getD n.toNat 0).toNat)
  | _=>none
 | some i,.v (.agg cs),.v (.int _ n)=>match i.k with
  | .arr len esz ag=>match (if ag then (match Fs (n.toNat * esz) esz cs with | some l=>sF true l | none=>none) else (match Fs (n.toNat * esz) 1 cs with | some l=>sF false l | none=>none)) with
   | some v=>some (decide (0≤n∧n < len),v)
   | none=>none
  | _=>none
 | _,_,_=>none
def An (y:Nat):SV→Option (Bool × Nat)
 | .v (.int _ n)=>some (decide (0≤n∧n≤y),n.toNat)
 | _=>none
def dB {α:Type} (lo hi:Nat) (l:List α):List α:=(l.take hi).drop lo
def mI (E:Env) (af:bc):Option Operand→Option (Option SV)
 | none=>some none
 | some x=>some (some (bw E af x))
def DI (len:Nat) (lo hi:Option SV):Option (Bool × Nat × Nat):=
 match (match hi with | none=>some (true,len) | some h=>An len h) with
 | none=>none
 | some (c1,h)=>match (match lo with | none=>some (true,0) | some l=>An h l) with
  | none=>none
  | some (c2,l)=>some (c1&&c2,l,h)
def VT (agg:Bool) (l:List AV):AV:=match agg with
 | true=>.agg l
 | false=>eu l
def gW (agg:Bool) (sz:Nat):Nat→List AV→List AV
 | 0,_=>[]
 | n+1,cs=>VT agg (cs.take sz) :: gW agg sz n (cs.drop sz)
def DJ (ag:Bool) (e:AV):Bool:=e.aV&&(ag || e.one)&&e.closed
def Ao (E:Env) (t:TypeId) (x:SV) (lo hi:Option SV) (mx:Option Operand):Option (Bool × AV):=
 match E.ti t,mx with
 | some i,none=>match i.k,x with
  | .str,.v (.str l)=>match DI l.length lo hi with
   | some (c,a,b)=>some (c,.str (dB a b l))
   | none=>none
  | .sl _ esz _ _ _,.v (.list k sz es)=>
   if Nat.beq sz esz || es.isEmpty then
    match DI es.length lo hi with
    | some (c,a,b)=>some (c,.list (match k with | .nil=>.nil | .full=>(match hi with | none=>.full | some _=>.jP) | _=>.jP) esz (dB a b es))
    | none=>none
   else none
  | .sl _ esz _ _ _,.v (.jS id off sz len cap)=>
   if Nat.beq sz esz then
    match DI len lo hi with
    | some (c,a,b)=>some (c,.jS id (bif Nat.beq cap a then off else off+a * sz) sz (b - a) (cap - a))
    | none=>none
   else none
  | .sl _ esz _ _ _,.v (.dX id f off sz len)=>
   if Nat.beq sz esz then
    match DI len lo hi with
    | some (c,a,b)=>some (c,.dX id f (off+a) sz (b - a))
    | none=>none
   else none
  | .arr len esz ag,.v (.ep cs)=>match lo,hi with
   | none,none=>if Nat.ble (len * esz) cs.length&&Nat.ble 1 esz&&(ag || Nat.beq esz 1)&&allFit (DJ ag) (gW ag esz len cs) then some (true,.list .full esz (gW ag esz len cs)) else none
   | _,_=>none
  | _,_=>none
 | _,_=>none
def IE (G:List GO) (id n:Nat) (f sz:Nat) (e:TypeId):List GO:=aD G id (.tok (f+n) sz e)
def GP (fs:List Nat) (j n:Nat):List Nat:=bif Nat.beq j fs.length then fs++[n] else aD fs j n
def MV (fs:List Nat) (j n:Nat):Bool:=decide (nth fs j=some n) || (Nat.beq j fs.length&&Nat.beq n 0)
def gf (G:List GO) (elem esz bq:Nat) (x:AV) (ys:List AV):Option (Bool × AV × List GO):=
 match x,ys with
 | .list k sz es,[]=>match k with
  | .nil=>some (true,.list .nil sz es,G)
  | k=>some (true,.list k sz es,G)
 | .list k sz es,y :: ys=>
  match k with
  | .nil=>some (decide ((es.length+(y :: ys).length) * bq≤140737488355328),.list (.own G.length) esz (es++(y :: ys)),G++[.tok (es.length+(y :: ys).length) esz elem])
  | .full=>if Nat.beq sz esz then some (decide ((es.length+(y :: ys).length) * bq≤140737488355328),.list (.own G.length) esz (es++(y :: ys)),G++[.tok (es.length+(y :: ys).length) esz elem]) else none
  | .own id=>match nth G id with
   | some (.tok f bE e')=>if Nat.beq bE esz&&Nat.beq e' elem&&Nat.beq sz esz then
     some (decide (f=es.length)&&decide ((es.length+(y :: ys).length) * bq≤140737488355328),.list (.own id) esz (es++(y :: ys)),IE G id (y :: ys).length f esz elem) else none
   | _=>none
  | .bf id j=>match nth G id with
   | some (.bf fs bE e')=>if Nat.beq bE esz&&Nat.beq e' elem&&Nat.beq sz esz then
     some (MV fs j es.length&&decide ((es.length+(y :: ys).length) * bq≤140737488355328),.list (.bf id j) esz (es++(y :: ys)),aD G id (.bf (GP fs j (es.length+(y :: ys).length)) esz elem)) else none
   | _=>none
  | .jP=>none
 | .dX id f off sz len,[]=>some (true,.dX id f off sz len,G)
 | .dX id f off sz len,y :: ys=>match nth G id with
  | some (.dG es bE e')=>if Nat.beq bE esz&&Nat.beq e' elem&&Nat.beq sz esz then
    some (decide (f=es.length)&&decide (off=0)&&decide (len=f)&&decide ((es.length+(y :: ys).length) * bq≤140737488355328),.dX id (es.length+(y :: ys).length) 0 esz (es.length+(y :: ys).length),aD G id (.dG (es++(y :: ys)) esz elem)) else none
  | _=>none
 | _,_=>none
def qU (b:UInt8):AV:=.int .u8 b.toNat
def iB (es:List AV):List UInt8:=es.map fun a=>UInt8.ofNat a.kZ.toNat
def vA (es:List AV):List UInt8:=es.flatMap fun a=>(Utf8.encode a.kZ).data.toList
def GQ:AV→List AV→Option AV
 | x,[]=>some x
 | .int k x,.int k' y :: l=>if k=k' then GQ (.int k (if y > x then y else x)) l else none
 | _,_=>none
def DK:AV→List AV→Option AV
 | x,[]=>some x
 | .int k x,.int k' y :: l=>if k=k' then DK (.int k (if y < x then y else x)) l else none
 | .str x,.str y :: l=>DK (.str (bif Op.bytesLess x y || x == y then x else y)) l
 | _,_=>none
def av:List AV→List AV
 | []=>[]
 | e :: es=>e.cells++av es
def qV (s:St) (esz:Nat) (d x:AV):Option (Nat × List GO):=
 match d with
 | .jS id off sz len _=>match nth s.G id with
  | some (.row cs el)=>
   if Nat.beq sz esz then
    match x with
    | .list _ bE es=>if Nat.beq bE esz || es.isEmpty then
      let n:=Nat.min es.length len
      let l:=av (es.take n)
      if Nat.ble (off+l.length) cs.length then some (n,aD s.G id (.row (bZ cs off l) el)) else none
     else none
    | .str bs=>
      if Nat.beq esz 1&&Nat.ble (off+(bs.take (Nat.min bs.length len)).length) cs.length then some (Nat.min bs.length len,aD s.G id (.row (bZ cs off ((bs.take (Nat.min bs.length len)).map qU)) el)) else none
    | .jS jz fN bE DL _=>match nth s.G jz with
     | some (.row cs' _)=>
      let n:=Nat.min DL len
      match Fs fN (n * esz) cs' with
      | some l=>if Nat.beq bE esz&&Nat.ble (off+l.length) cs.length then some (n,aD s.G id (.row (bZ cs off l) el)) else none
      | none=>none
     | _=>none
    | _=>none
   else none
  | _=>none
 | .dX id f off sz len=>match nth s.G id,x with
  | some (.dG es bE el),.list _ Zy xs=>if Nat.beq sz esz&&Nat.beq bE sz&&(Nat.beq Zy esz || xs.isEmpty)&&Nat.ble f es.length&&Nat.ble es.length f&&Nat.ble (off+Nat.min xs.length len) es.length then
    some (Nat.min xs.length len,aD s.G id (.dG (bZ es off (xs.take (Nat.min xs.length len))) bE el)) else none
  | _,_=>none
 | _=>none
def bI (E:Env) (s:St) (dst:Option Tmp) (b:Builtin) (args:List AV) (tys:List TypeId):Option (Bool × St):=
 match b,args with
 | .len,[x]=>match tys with
  | t :: _=>match E.ti t with
   | some i=>match i.k,x with
    | .str,.str l=>some (true,s.put dst (.v (.int .i64 l.length)))
    | .sl ..,.list _ _ es=>some (true,s.put dst (.v (.int .i64 es.length)))
    | .sl ..,.jS _ _ _ len _=>some (true,s.put dst (.v (.int .i64 len)))
    | .sl ..,.dX _ _ _ _ len=>some (true,s.put dst (.v (.int .i64 len)))
    | .arr n _ _,_=>some (true,s.put dst (.v (.int .i64 n)))
    | .map ..,.kr=>some (true,s.put dst (.v (.int .i64 0)))
    | .map ..,.map id=>match nth s.G id with
     | some (.map es)=>some (true,s.put dst (.v (.int .i64 es.length)))
     | _=>none
    | _,_=>none
   | none=>none
  | _=>none
 | .append,[x,.list _ sz ys]=>match tys with
  | [t,u]=>match E.ti t with
   | some i=>match i.k with
    | .sl elem esz _ bq (some z)=>
     if (Nat.beq sz esz || ys.isEmpty)&&Nat.beq t u&&Nat.ble 1 esz&&Nat.ble 1 bq&&Nat.beq z.cells.length esz&&z.aV then
      match gf s.G elem esz bq x ys with
      | some (c,v,G')=>some (c,(s.bW G').put dst (.v v))
      | none=>none
     else none
    | _=>none
   | none=>none
  | _=>none
 | .append,[x,.str bs]=>match tys with
  | [t,u]=>match E.ti t,E.ti u with
   | some i,some j=>match i.k,j.k with
    | .sl elem esz _ bq (some z),.str=>
     if Nat.beq esz 1&&Nat.ble 1 bq&&Nat.beq z.cells.length esz&&z.aV then
      match gf s.G elem esz bq x (bs.map qU) with
      | some (c,v,G')=>some (c,(s.bW G').put dst (.v v))
      | none=>none
     else none
    | _,_=>none
   | _,_=>none
  | _=>none
 | .copy,[d,x]=>match tys with
  | t :: _=>match E.ti t with
   | some i=>match i.k with
    | .sl _ esz _ _ _=>match qV s esz d x with
     | some (n,G')=>some (true,(s.bW G').put dst (.v (.int .i64 n)))
     | none=>none
    | _=>none
   | none=>none
  | _=>none
 | .clear,[x]=>match dst,tys,x with
  | none,[t],.dX id f off sz len=>match E.ti t,nth s.G id with
   | some i,some (.dG es bE el)=>match i.k with
    | .sl elem esz _ _ (some z)=>if Nat.beq sz esz&&Nat.beq bE sz&&Nat.beq el elem&&Nat.beq z.cells.length esz&&z.aV&&z.closed then
      some (decide (f=es.length)&&decide (off+len≤es.length),s.bW (aD s.G id (.dG (bZ es off (List.replicate len z)) bE el))) else none
    | _=>none
   | _,_=>none
  | _,_,_=>none
 | .max,x :: l=>match GQ x l with
  | some v=>some (true,s.put dst (.v v))
  | none=>none
 | .min,x :: l=>match DK x l with
  | some v=>some (true,s.put dst (.v v))
  | none=>none
 | _,_=>none
def EK.plain:EK→Bool
 | .bool | .int | .str=>true
 | .st _=>true
 | _=>false
def EK.wide:EK→Bool
 | .st _=>true
 | _=>false
def gi:AV→Bool
 | .bool _=>true
 | .int _ _=>true
 | .str _=>true
 | _=>false
def nO:AV→AV→Bool
 | .bool a,.bool b=>a == b
 | .int k a,.int l b=>decide (k=l)&&a == b
 | .str a,.str b=>a == b
 | _,_=>false
def lW:List AV→List AV→Bool
 | [],[]=>true
 | a :: l,b :: r=>nO a b&&lW l r
 | _,_=>false
def lm:AV→AV→Bool
 | .agg xs,.agg ys=>lW xs ys
 | _,_=>false
def Dz (e:EK) (a b:AV):Option Bool:=match k9 e a b with
 | some true=>bif e.wide&&!lm a b then none else some true
 | r=>r
def iP (e:EK) (k:AV):List (AV × AV)→Option (Option AV)
 | []=>some none
 | (k',v) :: l=>match Dz e k k' with
  | some true=>some (some v)
  | some false=>iP e k l
  | none=>none
def sH (e:EK) (k v:AV):List (AV × AV)→Option (List (AV × AV))
 | []=>some [(k,v)]
 | (k',v') :: l=>match Dz e k k' with
  | some true=>some ((k,v) :: l)
  | some false=>match sH e k v l with
   | some r=>some ((k',v') :: r)
   | none=>none
  | none=>none
def iC:EK→AV→Bool
 | .bool,.bool _=>true
 | .int,.int _ _=>true
 | .str,.str _=>true
 | .st fs,.agg cs=>cs.all gi&&(sG fs cs cs).isSome
 | _,_=>false
def mapOf (s:St):SV→Option (List (AV × AV))
 | .v .kr=>some []
 | .v (.map id)=>match nth s.G id with
  | some (.map es)=>some es
  | _=>none
 | _=>none
def lD (G:List GO) (id:Nat):List Nat:=match nth G id with
 | some (.bf fs _ _)=>fs
 | _=>[]
def BP (E:Env) (G:List GO) (t:TypeId) (z:AV):AV:=match E.Yx t,z with
 | some (.bf e sz _),.list .nil _ []=>match jd G sz e 0 with
  | some id=>.list (.bf id (lD G id).length) sz []
  | none=>z
 | _,_=>z
def jg (E:Env) (s:St) (t:TypeId) (m k:SV):Option (AV × Bool):=match E.ti t,mapOf s m,k with
 | some i,some es,.v k=>match i.k with
  | .map kt _ (some z)=>match E.ti kt with
   | some j=>if j.ek.plain&&iC j.ek k then match iP j.ek k es with
     | some (some v)=>some (v,true)
     | some none=>some (z,false)
     | none=>none
    else none
   | none=>none
  | _=>none
 | _,_,_=>none
def ln (E:Env) (s:St) (t:TypeId) (m k:SV):Option (AV × Bool):=match jg E s t m k with
 | some (v,false)=>some (BP E s.G t v,false)
 | r=>r
def fe (E:Env) (s:St) (t:TypeId) (m k x:SV):Option St:=match E.ti t,m,k,x with
 | some i,.v (.map id),.v k,.v x=>match i.k,nth s.G id with
  | .map kt _ _,some (.map es)=>match E.ti kt with
   | some j=>if j.ek.plain&&iC j.ek k then match sH j.ek k x es with
     | some es'=>some (s.bW (aD s.G id (.map es')))
     | none=>none
    else none
   | none=>none
  | _,_=>none
 | _,_,_,_=>none
def oQ (l:List UInt8) (pos:Nat):Nat × Nat:=
 bif Nat.blt (l.getD pos 0).toNat 128 then ((l.getD pos 0).toNat,1) else Utf8.decode ⟨⟨l⟩⟩ pos
def lq (s:St) (dst:Option Tmp) (x:SV):Option St:=match x with
 | .v (.ptr id 0)=>match nth s.G id with
  | some (.gB l pos)=>bif Nat.blt pos l.length then
    match oQ l pos with
    | (c,n)=>some ((s.bW (aD s.G id (.gB l (pos+n)))).put dst (.v (.bh [.bool true,.int .i64 pos,.int .i32 c])))
   else some (s.put dst (.v (.bh [.bool false])))
  | _=>none
 | _=>none
def dU (es:List (AV × AV)) (i:Nat):AV × AV:=match nth es i with
 | some e=>e
 | none=>(fM,fM)
def RZ (E:Env) (kt:TypeId):Option aO:=match E.MU kt with
 | some p=>some p
 | none=>match E.ti kt with
  | some i=>match i.k with
   | .int k=>some (.int k)
   | .str=>some .str
   | _=>none
  | none=>none
def qW (E:Env) (t:TypeId) (e:AV × AV):Bool × AV × AV:=match E.ti t with
 | some i=>match i.k with
  | .map kt _ _=>match E.MU t,RZ E kt with
   | some pv,some pk=>(pk.fits e.1&&pv.fits e.2,pk.enc (pk.bo e.1),pv.enc (pv.bo e.2))
   | _,_=>(true,e.1,e.2)
  | _=>(true,e.1,e.2)
 | none=>(true,e.1,e.2)
def zf (E:Env) (s:St) (dst:Option Tmp) (x:SV):Option (Bool × St × List Nat × (Nat→Bool × St)):=match x with
 | .v (.ptr id 0)=>match nth s.G id with
  | some (.nB qb n left _ t)=>match nth s.G qb with
   | some (.map es)=>some (decide (es.length=n),s.put dst (.v (.bh [.bool false])),left,
     fun i=>((qW E t (dU es i)).1,(s.bW (aD s.G id (.nB qb n (left.erase i) (some i) t))).put dst (.v (.bh [.bool true,(qW E t (dU es i)).2.1,(qW E t (dU es i)).2.2]))))
   | _=>none
  | _=>none
 | _=>none
def sI (E:Env) (s:St) (o:Oper):Option (Bool × St × List Nat × (Nat→Bool × St)):=match o.op with
 | .next x false=>zf E s o.dst (bw E s.af x)
 | _=>none
def Zz (E:Env) (op:BinOp) (t:TypeId) (a b:AV):Option Bool:=match op,E.ti t with
 | .eql,some i=>k9 i.ek a b
 | .neq,some i=>match k9 i.ek a b with
  | some r=>some (!r)
  | none=>none
 | _,_=>none
def jT (E:Env) (s:St) (t:TypeId) (len:Nat) (parts:List (Nat × Operand)):Option (List AV):=
 match E.ti t,MB E s.af parts with
 | some i,some ps=>match i.k with
  | .sl _ esz _ _ (some z)=>
    if Nat.beq z.cells.length esz&&Nat.ble 1 esz&&Nat.ble (len * esz) 16777216&&z.aV then
     tH (fun i=>some (i * esz,esz)) (av (List.replicate len z)) (zd ps)
    else none
  | _=>none
 | _,_=>none
def jh (E:Env) (f:FuncId) (s:St) (o:Oper):Option St:=match o.op with
 | .buildSlice t len parts=>match o.dst with
  | some d=>if E.yB f d then match E.ti t with
    | some i=>match i.k,bX E s t len parts.toList with
     | .sl elem _ _ _ _,some (.list _ esz es)=>some ((s.dO (.row (av es) elem)).put (some d) (.v (.jS s.G.length 0 esz len len)))
     | .sl elem esz _ _ _,none=>match jT E s t len parts.toList with
      | some cs=>some ((s.dO (.row cs elem)).put (some d) (.v (.jS s.G.length 0 esz len len)))
      | none=>none
     | _,_=>none
    | none=>none
   else if E.yB f (d+196608) then match E.ti t with
    | some i=>match i.k,bX E s t len parts.toList with
     | .sl elem _ _ _ _,some (.list _ esz es)=>if Nat.ble len 65536 then some ((s.dO (.dG es esz elem)).put (some d) (.v (.dX s.G.length len 0 esz len))) else none
     | _,_=>none
    | none=>none
   else if E.yB f (d+65536) then match E.ti t with
    | some i=>match i.k,bX E s t len parts.toList with
     | .sl elem _ _ _ _,some (.list _ esz es)=>if Nat.ble len 65536 then some ((s.dO (.tok len esz elem)).put (some d) (.v (.list (.own s.G.length) esz es))) else none
     | _,_=>none
    | none=>none
   else none
  | none=>none
 | _=>none
def zg (wk:Bool) (es:List AV):List AV:=match wk with
 | true=>es.map AV.gD
 | false=>es
def lX (wk:Bool):List AV→List GO→Bool × List AV × List GO
 | [],G=>(true,[],G)
 | .dX id f 0 sz len :: l,G=>match nth G id with
  | some (.dG es bE _)=>match lX wk l (aD G id .dead) with
   | (c,r,G')=>(decide (f=es.length)&&decide (len=es.length)&&Nat.beq sz bE&&ba (zg wk es)&&c,.list .jP sz (zg wk es) :: r,G')
  | _=>match lX wk l G with
   | (_,r,G')=>(false,r,G')
 | a :: l,G=>match lX wk l G with
  | (c,r,G')=>(c,a :: r,G')
def oR (cut wk:Bool) (s:St) (t:Tmp):Option (Bool × St):=match lk s.af t with
 | .v (.dX id f off sz len)=>match nth s.G id with
  | some (.dG es bE _)=>if Nat.beq off 0&&Nat.beq sz bE then
    some (decide (f=es.length)&&(bif cut then decide (len≤es.length) else decide (len=es.length))&&ba (zg wk es),⟨.put t (.v (.list .jP sz (zg wk (bif cut then es.take len else es)))) :: s.af,s.boxes,aD s.G id .dead,s.marks,s.ro,s.n⟩) else none
  | _=>none
 | .v (.ptr id 0)=>match nth s.G id with
  | some (.row cs _)=>some (ba cs,⟨.put t (.v (.ep cs)) :: s.af,s.boxes,aD s.G id .dead,s.marks,s.ro,s.n⟩)
  | _=>none
 | .v (.agg cs)=>match lX wk cs s.G with
  | (c,cs',G')=>some (c,⟨.put t (.v (.agg cs')) :: s.af,s.boxes,G',s.marks,s.ro,s.n⟩)
 | _=>none
def gO (cut wk:Bool):List Operand→St→Bool × St
 | [],s=>(true,s)
 | .tmp t :: l,s=>match oR cut wk s t with
  | some (c,s')=>match gO cut wk l s' with
   | (c',s2)=>(c&&c',s2)
  | none=>gO cut wk l s
 | _ :: l,s=>gO cut wk l s
def GR (E:Env) (f:FuncId) (s:St) (o:Oper):Option (Bool × St):=match o.dst with
 | some d=>if E.yB f (d+262144) then some (gO (E.yB f (d+393216)) (E.yB f (d+458752)) o.op.operands.toList s) else none
 | none=>none
def lY (E:Env) (s:St) (a b:TypeId) (x:SV):Option (Bool × AV):=
 match E.ti a,E.ti b,x with
 | some i,some j,.v x=>match j.k,x with
  | .int k,.int _ n=>some (true,.int k (k.wrap n))
  | .str,.list _ sz es=>match i.k with
   | .sl elem 1 _ _ _=>match E.ti elem with
    | some e=>match e.k with
     | .int .u8=>some ((Nat.beq sz 1 || es.isEmpty)&&allFit (aO.fits (.int .u8)) es,.str (iB es))
     | .int .i32=>some ((Nat.beq sz 1 || es.isEmpty)&&allFit (aO.fits (.int .i32)) es,.str (vA es))
     | _=>none
    | none=>none
   | _=>none
  | .str,.jS id off 1 len _=>match i.k,nth s.G id with
   | .sl elem 1 _ _ _,some (.row cs _)=>match E.ti elem with
    | some e=>match e.k with
     | .int .u8=>some (Nat.ble (off+len) cs.length&&allFit (aO.fits (.int .u8)) (dB off (off+len) cs),.str (iB (dB off (off+len) cs)))
     | _=>none
    | none=>none
   | _,_=>none
  | _,_=>none
 | _,_,_=>none
def GS (id sz:Nat):List AV→List Nat→Option (List AV × List Nat)
 | [],fs=>some ([],fs)
 | .list .nil _ [] :: l,fs=>match GS id sz l (fs++[0]) with
  | some (r,Ap)=>some (.list (.bf id fs.length) sz [] :: r,Ap)
  | none=>none
 | .list .full bE es :: l,fs=>if Nat.beq sz bE then match GS id sz l (fs++[es.length]) with
   | some (r,Ap)=>some (.list (.bf id fs.length) sz es :: r,Ap)
   | none=>none
  else none
 | _ :: _,_=>none
def uX (e:EK) (k k':AV):Bool:=match Dz e k k' with
 | some b=>b
 | none=>false
def dZ (e:EK) (k:AV):List (AV × AV)→Bool
 | []=>true
 | (k',_) :: l=>(Dz e k k').isSome&&dZ e k l
def fj (e:EK) (k:AV):List (AV × AV)→Option AV
 | []=>none
 | (k',v) :: l=>bif uX e k k' then some v else fj e k l
def eN (e:EK) (k v:AV):List (AV × AV)→List (AV × AV)
 | []=>[(k,v)]
 | (k',v') :: l=>bif uX e k k' then (k,v) :: l else (k',v') :: eN e k v l
def cM (e:EK) (k z:AV) (es:List (AV × AV)):AV:=(fj e k es).getD z
def iq (e:EK) (k:AV):List (AV × AV)→Nat
 | []=>0
 | (k',_) :: l=>bif uX e k k' then 0 else iq e k l+1
def jD:List (AV × AV)→Nat→AV→List (AV × AV)
 | [],_,_=>[]
 | (k,_) :: l,0,x=>(k,x) :: l
 | e :: l,n+1,x=>e :: jD l n x
def sJ (E:Env) (s:St) (x:SV):Option (Bool × AV):=match x with
 | .v (.ptr id 0)=>match nth s.G id with
  | some (.nB qb n _ (some i) t)=>match nth s.G qb with
   | some (.map es)=>some (decide (es.length=n)&&decide (i < n)&&(qW E t (dU es i)).1,.bh [(qW E t (dU es i)).2.1,(qW E t (dU es i)).2.2])
   | _=>none
  | _=>none
 | _=>none
def gj (E:Env) (s:St) (t:TypeId) (m k:SV):Option (Bool × AV × St):=match E.ti t,m,k with
 | some i,.v (.map id),.v k=>match i.k,nth s.G id with
  | .map kt _ (some z),some (.map es)=>match E.ti kt with
   | some j=>if j.ek.plain&&iC j.ek k then
     some (dZ j.ek k es,.bh [cM j.ek k z es,.int .i64 (iq j.ek k es:Nat)],s.bW (aD s.G id (.map (eN j.ek k (cM j.ek k z es) es)))) else none
   | none=>none
  | _,_=>none
 | _,_,_=>none
def eB (s:St) (m st x:SV):Option (Bool × St):=match m,st,x with
 | .v (.map id),.v (.int .i64 n),.v v=>match nth s.G id with
  | some (.map es)=>some (decide (0≤n)&&decide (n.toNat < es.length),s.bW (aD s.G id (.map (jD es n.toNat v))))
  | _=>none
 | _,_,_=>none
def gE (E:Env) (f:FuncId) (s:St) (o:Oper):Option (Bool × St):=match o.dst with
 | some d=>if E.yB f (d+524288) then match o.op with
   | .call { callee:=.builtin .append,args,argTypes }=>match lS E s.af args.toList,argTypes.toList with
    | some [.dX id g off sz len,.list k szy (y :: ys)],[t,u]=>match E.ti t with
     | some i=>match i.k with
      | .sl elem esz _ bq (some z)=>match E.ti elem with
       | some j=>match j.k with
        | .sl e2 mJ _ _ _=>match jd s.G mJ e2 0 with
         | some kY=>match GS kY mJ (y :: ys) (lD s.G kY),nth s.G id with
          | some (GU,Ap),some (.dG es bE e')=>
           if Nat.beq szy esz&&Nat.beq bE esz&&Nat.beq e' elem&&Nat.beq sz esz&&Nat.beq t u&&Nat.ble 1 esz&&Nat.ble 1 bq&&Nat.beq z.cells.length esz&&z.aV then
            some (decide (g=es.length)&&decide (off=0)&&decide (len=g)&&decide ((es.length+(y :: ys).length) * bq≤140737488355328),
             (s.bW (aD (aD s.G kY (.bf Ap mJ e2)) id (.dG (es++GU) esz elem))).put o.dst (.v (.dX id (es.length+(y :: ys).length) 0 esz (es.length+(y :: ys).length))))
           else none
          | _,_=>none
         | none=>none
        | _=>none
       | none=>none
      | _=>none
     | none=>none
    | _,_=>none
   | _=>none
  else none
 | none=>none
def tJ (E:Env) (f:FuncId) (s:St) (o:Oper):Option (Bool × St):=match o.dst with
 | some d=>if E.yB f (d+524288) then match o.op with
   | .lookup t m k ok=>match E.Yx t,E.ti t,bw E s.af m,bw E s.af k with
    | some (.bf e sz p),some i,.v (.map id),.v k=>match i.k,nth s.G id with
     | .map kt _ (some (.list .nil _ [])),some (.map es)=>match E.ti kt,jd s.G sz e 0 with
      | some j,some kY=>if j.ek.plain&&iC j.ek k then
        some (dZ j.ek k es&&(aO.bf kY sz p).fits (cM j.ek k (.list (.bf kY (lD s.G kY).length) sz []) es),
         (s.bW (aD s.G kY (.bf (lD s.G kY++[0]) sz e))).put o.dst (.v (if ok then .bh [(aO.bf kY sz p).enc ((aO.bf kY sz p).bo (cM j.ek k (.list (.bf kY (lD s.G kY).length) sz []) es)),.bool (fj j.ek k es).isSome]
          else (aO.bf kY sz p).enc ((aO.bf kY sz p).bo (cM j.ek k (.list (.bf kY (lD s.G kY).length) sz []) es)))))
       else none
      | _,_=>none
     | _,_=>none
    | _,_,_,_=>none
   | _=>none
  else none
 | none=>none
def ZA (E:Env) (f:FuncId) (d:Option Tmp):Bool:=match d with
 | some d=>E.yB f (d+196608)
 | none=>false
def ao (E:Env) (f:FuncId) (s:St) (o:Oper):Option (Bool × St):=
 match o.op with
 | .move x=>match bw E s.af x with
  | .v a=>some (true,s.put o.dst (.v a))
  | .lp k off=>some (true,s.put o.dst (.lp k off))
  | .none=>some (true,s.put o.dst .none)
 | .assign x=>match bw E s.af x with
  | .v a=>some (true,s.put o.dst (.v a))
  | .lp k off=>some (true,s.put o.dst (.lp k off))
  | .none=>some (true,s.put o.dst .none)
 | .pick c a b=>match bw E s.af c,bw E s.af a,bw E s.af b with
  | .v (.bool t),.v x,.v y=>some (true,s.put o.dst (.v (Al t x y)))
  | _,_,_=>none
 | .alloc e=>match E.ti e with
  | some i=>match i.zero with
   | some z=>if z.aV then fc E f s o.dst e z.cells else none
   | none=>none
  | none=>none
 | .box t x=>match bw E s.af x with
  | .v v=>if v.aV then fc E f s o.dst t v.cells else none
  | _=>none
 | .build t parts=>match mH E s t parts.toList with
  | some v=>some (true,s.put o.dst (.v v))
  | none=>none
 | .buildSlice t len parts=>match bX E s t len parts.toList with
  | some v=>some (true,s.put o.dst (.v v))
  | none=>none
 | .load t a=>match ze E s t (bw E s.af a) with
  | some (c,v)=>some (c,s.put o.dst (.v v))
  | none=>none
 | .store t a x=>match o.dst,jC E s t (bw E s.af a) (bw E s.af x) with
  | none,some (c,s')=>some (c,s')
  | _,_=>none
 | .binOp op t x y _=>match bw E s.af x,bw E s.af y with
  | .v a,.v b=>match BN op a b with
   | some (c,v)=>some (c,s.put o.dst (.v v))
   | none=>match Zz E op t a b with
    | some r=>some (true,s.put o.dst (.v (.bool r)))
    | none=>none
  | _,_=>none
 | .unOp op _ x=>match op,bw E s.af x with
  | .not,.v (.bool b)=>some (true,s.put o.dst (.v (.bool (!b))))
  | .neg,.v (.int k n)=>some (true,s.put o.dst (.v (.int k (k.wrap (0 - n)))))
  | _,_=>none
 | .convert a b x=>match lY E s a b (bw E s.af x) with
  | some (c,v)=>some (c,s.put o.dst (.v v))
  | none=>none
 | .nilCheck x=>match bw E s.af x with
  | .v (.ptr id off)=>some (true,s.put o.dst (.v (.ptr id off)))
  | .lp k off=>some (true,s.put o.dst (.lp k off))
  | _=>none
 | .makeFunc (.func g) first captured=>match lS E s.af first.toList,lS E s.af captured.toList with
  | some x,some y=>some (true,s.put o.dst (.v (.fn g x y)))
  | _,_=>none
 | .fieldAddr t x j=>match kv E t (bw E s.af x) j with
  | some p=>some (true,s.put o.dst p)
  | none=>none
 | .field t x j=>match DG E t (bw E s.af x) j with
  | some v=>some (true,s.put o.dst (.v v))
  | none=>none
 | .indexAddr t x ix=>match ku E t (bw E s.af x) (bw E s.af ix) with
  | some (c,p)=>some (c,s.put o.dst p)
  | none=>none
 | .index t x ix=>match DH E t (bw E s.af x) (bw E s.af ix) with
  | some (c,v)=>some (c,s.put o.dst (.v v))
  | none=>none
 | .slice t x lo hi mx=>match mI E s.af lo,mI E s.af hi with
  | some l,some h=>match Ao E t (bw E s.af x) l h mx with
   | some (c,v)=>some (c,s.put o.dst (.v v))
   | none=>none
  | _,_=>none
 | .extract x i=>match bw E s.af x with
  | .v (.bh vs)=>match nth vs i with
   | some v=>some (true,s.put o.dst (.v v))
   | none=>none
  | _=>none
 | .makeSlice t l c=>match E.ti t,bw E s.af l,bw E s.af c with
  | some i,.v (.int _ n),.v (.int _ m)=>match i.k with
   | .sl elem esz _ bq (some z)=>
    if Nat.beq z.cells.length esz&&Nat.ble 1 esz&&z.aV then
     if ZA E f o.dst then (if z.closed then some (decide (0≤n∧n≤m∧m≤140737488355328∧m * bq≤140737488355328),
      (s.dO (.dG (List.replicate n.toNat z) esz elem)).put o.dst (.v (.dX s.G.length n.toNat 0 esz n.toNat))) else none)
     else some (decide (0≤n∧n≤m∧m≤140737488355328∧m * bq≤140737488355328),
      (s.dO (.row (av (List.replicate m.toNat z)) elem)).put o.dst (.v (.jS s.G.length 0 esz n.toNat m.toNat)))
    else none
   | _=>none
  | _,_,_=>none
 | .lookup t m k ok=>match ln E s t (bw E s.af m) (bw E s.af k) with
  | some (v,b)=>some (true,s.put o.dst (.v (if ok then .bh [v,.bool b] else v)))
  | none=>none
 | .mapUpdate t m k x=>match o.dst,fe E s t (bw E s.af m) (bw E s.af k) (bw E s.af x) with
  | none,some s'=>some (true,s')
  | _,_=>none
 | .insert t m k x=>match o.dst,fe E s t (bw E s.af m) (bw E s.af k) (bw E s.af x) with
  | none,some s'=>some (true,s')
  | _,_=>none
 | .entry x=>match sJ E s (bw E s.af x) with
  | some (c,v)=>some (c,s.put o.dst (.v v))
  | none=>none
 | .mapEntry t m k=>match gj E s t (bw E s.af m) (bw E s.af k) with
  | some (c,v,s')=>some (c,s'.put o.dst (.v v))
  | none=>none
 | .entryStore _ m st x=>match o.dst,eB s (bw E s.af m) (bw E s.af st) (bw E s.af x) with
  | none,some (c,s')=>some (c,s')
  | _,_=>none
 | .range t x=>match E.ti t,bw E s.af x with
  | some i,.v (.str l)=>match i.k with
   | .str=>some (true,(s.dO (.gB l 0)).put o.dst (.v (.ptr s.G.length 0)))
   | _=>none
  | some i,.v (.map id)=>match i.k,nth s.G id with
   | .map _ _ _,some (.map es)=>some (true,(s.dO (.nB id es.length (List.range es.length) none t)).put o.dst (.v (.ptr s.G.length 0)))
   | _,_=>none
  | _,_=>none
 | .next x true=>match lq s o.dst (bw E s.af x) with
  | some s'=>some (true,s')
  | none=>none
 | .makeMap _ none=>some (true,(s.dO (.map [])).put o.dst (.v (.map s.G.length)))
 | .call { callee:=.builtin b,args,argTypes }=>match gE E f s o with
  | some r=>some r
  | none=>match lS E s.af args.toList with
   | some l=>bI E s o.dst b l argTypes.toList
   | none=>none
 | _=>none
end Go.Am
namespace Go.Am
open Go
inductive TR where
 | bz
 | full (f:Nat)
 | tok (f b c:Nat)
inductive RO where
 | none
 | bz
 | bU (b:Nat)
 | tok (f b c:Nat)
 | bf (ts:List TR)
def RO.has:RO→Nat→Prop
 | .none,_=>False
 | .bz,_=>False
 | .bU b,x=>x=b
 | .tok _ b _,x=>x=b
 | .bf ts,x=>∃ j f c,nth ts j=some (.tok f x c)
def ji (sz:Nat) (es:List AV):Prop:=∀ e∈es,e.cells.length=sz∧e.aV=true∧e.closed=true
def dw (sz:Nat) (es:List AV):Prop:=∀ e∈es,e.cells.length=sz∧e.aV=true
theorem ji.g {sz:Nat} {es:List AV} (h:ji sz es):dw sz es:=fun e he=>⟨(h e he).1,(h e he).2.1⟩
structure ai where
 I:Nat→Nat→Prop
 obj:List RO
def QR (b o len cap:Nat):RO→Prop
 | .none=>True
 | .bz=>False
 | .bU _=>False
 | .tok f b' c'=>len≤f∧(len=f→b=b'∧o=0∧cap=c')
 | .bf _=>False
def MW (b o len cap:Nat):TR→Prop
 | .bz=>False
 | .full f=>len≤f∧(len=f→cap=len)
 | .tok f b' c'=>len≤f∧(len=f→b=b'∧o=0∧cap=c')
def VU (b o len cap j:Nat):RO→Prop
 | .none=>True
 | .bz=>False
 | .bU _=>False
 | .tok _ _ _=>False
 | .bf ts=>∃ t,nth ts j=some t∧MW b o len cap t
def sL:RO→Prop
 | .none=>True
 | .bz=>False
 | .bU _=>False
 | .tok _ _ _=>False
 | .bf _=>True
def mK:RO→Prop
 | .none=>True
 | .bz=>True
 | .bU _=>False
 | .tok f _ _=>1≤f
 | .bf _=>False
def GV (b o f off sz cap:Nat):RO→Prop
 | .none=>True
 | .bz=>False
 | .bU _=>False
 | .tok f' b' c'=>f≤f'∧(f=f'→b=b'∧off+cap=c'∧(o=off * sz∨cap=0))
 | .bf _=>False
def IF (b o f i off sz:Nat):RO→Prop
 | .none=>True
 | .bz=>False
 | .bU _=>False
 | .tok f' b' _=>f≤f'∧(f=f'→b=b'∧o=i * sz+off)
 | .bf _=>False
def Aq (R:ai) (k:LK) (b o len cap:Nat):Prop:=match k with
 | .nil=>False
 | .full=>cap=len
 | .jP=>True
 | .own id=>∃ ro,nth R.obj id=some ro∧QR b o len cap ro
 | .bf id j=>∃ ro,nth R.obj id=some ro∧VU b o len cap j ro
mutual
inductive Rel (R:ai) (w:World):AV→Value→Prop
 | bool (b:Bool):Rel R w (.bool b) (.bool b)
 | int (k:IntKind) (n:Int):Rel R w (.int k n) (.int k n)
 | str (l:List UInt8):Rel R w (.str l) (.string ⟨⟨l⟩⟩)
 | agg {cs:List AV} {vs:List Value} (h:aM R w cs vs) (h1:∀ v∈vs,v.oneCell'=true):Rel R w (.agg cs) (.agg ⟨vs⟩)
 | bh {cs:List AV} {vs:List Value} (h:aM R w cs vs):Rel R w (.bh cs) (.tuple ⟨vs⟩)
 | iA:Rel R w .iA (.pointer none)
 | ptr {id off b:Nat} (h:nth R.obj id=some (.bU b)):Rel R w (.ptr id off) (.pointer (some ⟨b,off,none⟩))
 | ep {cs:List AV} {b o:Nat} (h:dP R w b o cs):Rel R w (.ep cs) (.pointer (some ⟨b,o,none⟩))
 | jE {sz:Nat}:Rel R w (.list .nil sz []) (.slice none 0 0)
 | iR {sz:Nat}:Rel R w (.list .jP sz []) (.slice none 0 0)
 | mL {sz:Nat} {a:Addr}:Rel R w (.list .jP sz []) (.slice (some a) 0 0)
 | lZ {id sz:Nat} {ro:RO} (h:nth R.obj id=some ro) (ho:mK ro):Rel R w (.list (.own id) sz []) (.slice none 0 0)
 | lE {id j sz:Nat} {ro:RO} (h:nth R.obj id=some ro) (ho:sL ro):Rel R w (.list (.bf id j) sz []) (.slice none 0 0)
 | list {k:LK} {sz:Nat} {es:List AV} {b o len cap:Nat} (h:gk R w b o sz es) (hl:len=es.length) (hc:len≤cap) (hk:Aq R k b o len cap):Rel R w (.list k sz es) (.slice (some ⟨b,o,none⟩) len cap)
 | jS {id off sz len cap b:Nat} (h:nth R.obj id=some (.bU b)) (hc:len≤cap):Rel R w (.jS id off sz len cap) (.slice (some ⟨b,off,none⟩) len cap)
 | iM {id sz:Nat} {ro:RO} (h:nth R.obj id=some ro) (ho:mK ro):Rel R w (.dX id 0 0 sz 0) (.slice none 0 0)
 | dX {id f off sz len cap b o:Nat} {ro:RO} (h:nth R.obj id=some ro) (ho:GV b o f off sz cap ro) (hc:len≤cap):Rel R w (.dX id f off sz len) (.slice (some ⟨b,o,none⟩) len cap)
 | gp {id f i off sz b o:Nat} {t:TypeId} {ro:RO} (h:nth R.obj id=some ro) (ho:IF b o f i off sz ro):Rel R w (.gp id f i off sz t) (.pointer (some ⟨b,o,none⟩))
 | kr:Rel R w .kr (.map none)
 | map {id b:Nat} (h:nth R.obj id=some (.bU b)):Rel R w (.map id) (.map (some b))
 | cz:Rel R w .cz .nilFunc
 | fn {f:FuncId} {xs ys:List AV} {vs us:List Value} (h:aM R w xs vs) (h':aM R w ys us):Rel R w (.fn f xs ys) (.func (.func f) ⟨vs⟩ ⟨us⟩)
 | yield {id b:Nat} (h:nth R.obj id=some (.bU b)):Rel R w (.yield id) (.func (.yield b) #[] #[])
 | nG:Rel R w .nG .nilIface
 | iface {t:TypeId} {v:AV} {c:Value} (h:Rel R w v c):Rel R w (.iface t v) (.iface t c)
inductive aM (R:ai) (w:World):List AV→List Value→Prop
 | nil:aM R w [] []
 | cons {a:AV} {c:Value} {l:List AV} {cs:List Value} (h:Rel R w a c) (t:aM R w l cs):aM R w (a :: l) (c :: cs)
inductive gk (R:ai) (w:World):Nat→Nat→Nat→List AV→Prop
 | nil {b o sz:Nat}:gk R w b o sz []
 | cons {b o sz:Nat} {e:AV} {es:List AV} (hl:e.cells.length=sz) (ht:e.aV=true) (hk:e.closed=true) (h:dP R w b o e.cells) (t:gk R w b (o+sz) sz es):gk R w b o sz (e :: es)
inductive dP (R:ai) (w:World):Nat→Nat→List AV→Prop
 | nil {b o:Nat}:dP R w b o []
 | cons {b o:Nat} {a:AV} {c:Value} {l:List AV} (hc:w.cell? ⟨b,o,none⟩=some c) (h1:c.oneCell'=true) (hi:R.I b o) (h:Rel R w a c) (t:dP R w b (o+1) l):dP R w b o (a :: l)
end
def lF:TR→TR→Prop
 | .bz,.bz=>True
 | .bz,.full _=>False
 | .bz,.tok f _ _=>1≤f
 | .full _,.bz=>False
 | .full f,.full f'=>f'=f
 | .full f,.tok f' _ _=>f < f'
 | .tok _ _ _,.bz=>False
 | .tok _ _ _,.full _=>False
 | .tok f b c,.tok f' b' c'=>f≤f'∧(f'=f→b'=b∧c'=c)
theorem lF.refl (t:TR):lF t t:=by cases t <;> simp [lF]
theorem lF.trans {a b c:TR} (h:lF a b) (k:lF b c):lF a c:=by
 cases a <;> cases b <;> cases c <;> simp only [lF] at * <;> omega
def sM (ts Vh:List TR):Prop:=∀ j t,nth ts j=some t→∃ t',nth Vh j=some t'∧lF t t'
theorem sM.refl (ts:List TR):sM ts ts:=fun _ t h=>⟨t,h,lF.refl t⟩
theorem sM.trans {a b c:List TR} (h:sM a b) (k:sM b c):sM a c:=fun j t hj=>
 let ⟨_,h1,h2⟩:=h j t hj
 let ⟨t2,k1,k2⟩:=k j _ h1
 ⟨t2,k1,h2.trans k2⟩
def cw:RO→RO→Prop
 | .none,r=>r=.none
 | .bU b,r=>r=.bU b
 | .bz,.none=>True
 | .bz,.bz=>True
 | .bz,.bU _=>False
 | .bz,.tok f _ _=>1≤f
 | .tok _ _ _,.none=>True
 | .tok _ _ _,.bz=>False
 | .tok _ _ _,.bU _=>False
 | .tok f b c,.tok f' b' c'=>f≤f'∧(f'=f→b'=b∧c'=c)
 | .bz,.bf _=>False
 | .tok _ _ _,.bf _=>False
 | .bf _,.none=>True
 | .bf _,.bz=>False
 | .bf _,.bU _=>False
 | .bf _,.tok _ _ _=>False
 | .bf ts,.bf Vh=>sM ts Vh
theorem cw.refl (r:RO):cw r r:=by cases r <;> simp [cw,sM.refl]
theorem cw.trans {a b c:RO} (h:cw a b) (k:cw b c):cw a c:=by
 cases a with
 | none=>simp only [cw] at h; subst h; exact k
 | bU x=>simp only [cw] at h; subst h; exact k
 | bz=>
  cases b with
  | none=>simp only [cw] at k; subst k; trivial
  | bz=>exact k
  | bU z=>exact h.elim
  | tok f' x' y'=>
   cases c with
   | none=>trivial
   | bz=>exact k.elim
   | bU z=>exact k.elim
   | bf _=>exact k.elim
   | tok f'' x'' y''=>simp only [cw] at *; omega
  | bf _=>exact h.elim
 | tok f x y=>
  cases b with
  | none=>simp only [cw] at k; subst k; trivial
  | bz=>exact h.elim
  | bU z=>exact h.elim
  | tok f' x' y'=>
   cases c with
   | none=>trivial
   | bz=>exact k.elim
   | bU z=>exact k.elim
   | tok f'' x'' y''=>
    simp only [cw] at *
    refine ⟨Nat.le_trans h.1 k.1,fun e=>?_⟩
    obtain ⟨h1,h2⟩:=h; obtain ⟨k1,k2⟩:=k
    have e1:f'=f:=by omega
    have e2:f''=f':=by omega
    exact ⟨(k2 e2).1.trans (h2 e1).1,(k2 e2).2.trans (h2 e1).2⟩
   | bf _=>exact k.elim
  | bf _=>exact h.elim
 | bf ts=>
  cases b with
  | none=>simp only [cw] at k; subst k; trivial
  | bz=>exact h.elim
  | bU z=>exact h.elim
  | tok f' x' y'=>exact h.elim
  | bf Vh=>
   cases c with
   | none=>trivial
   | bz=>exact k.elim
   | bU z=>exact k.elim
   | tok f' x' y'=>exact k.elim
   | bf ts''=>exact sM.trans h k
def qX (r r':Loop):Prop:=r'.tmps=r.tmps∧r'.params=r.params∧r'.assign=r.assign∧r'.body=r.body∧r'.defers=r.defers
def gC (w w':World):Prop:=∀ (b:Nat) (r:Loop),w.heap[b]?=some (Obj.loop r)→∃ r',w'.heap[b]?=some (Obj.loop r')∧qX r r'
theorem gC.refl (w:World):gC w w:=fun _ r h=>⟨r,h,rfl,rfl,rfl,rfl,rfl⟩
theorem gC.trans {w w1 w2:World} (h:gC w w1) (k:gC w1 w2):gC w w2:=fun b r hb=>
 let ⟨_,h1,h2,h3,h4,h5,h6⟩:=h b r hb
 let ⟨r2,k1,k2,k3,k4,k5,k6⟩:=k b _ h1
 ⟨r2,k1,k2.trans h2,k3.trans h3,k4.trans h4,k5.trans h5,k6.trans h6⟩
theorem gC.old {w w':World} (h:∀ b,b < w.heap.size→w'.heap[b]?=w.heap[b]?):gC w w':=fun b r hb=>
 ⟨r,(h b (by
  rcases Nat.lt_or_ge b w.heap.size with cg | sA
  ·exact cg
  ·rw [Array.getElem?_eq_none sA] at hb; cases hb)).trans hb,rfl,rfl,rfl,rfl,rfl⟩
structure Ext (R:ai) (w:World) (R':ai) (w':World):Prop where
 I:∀ b o,R.I b o→R'.I b o
 cell:∀ b o,R.I b o→w'.cell? ⟨b,o,none⟩=w.cell? ⟨b,o,none⟩
 obj:∀ id ro,nth R.obj id=some ro→∃ lT,nth R'.obj id=some lT∧cw ro lT
 lp:gC w w'
theorem Ext.refl (R:ai) (w:World):Ext R w R w:=⟨fun _ _ h=>h,fun _ _ _=>rfl,fun _ ro h=>⟨ro,h,cw.refl ro⟩,gC.refl w⟩
theorem Ext.trans {R R' MX:ai} {w w' QS:World} (h:Ext R w R' w') (k:Ext R' w' MX QS):Ext R w MX QS:=
 ⟨fun b o hi=>k.I b o (h.I b o hi),fun b o hi=>(k.cell b o (h.I b o hi)).trans (h.cell b o hi),fun id ro hr=>
  let ⟨_,h1,h2⟩:=h.obj id ro hr
  let ⟨r2,h3,h4⟩:=k.obj id _ h1
  ⟨r2,h3,h2.trans h4⟩,h.lp.trans k.lp⟩
theorem Ext.bU {R R':ai} {w w':World} (h:Ext R w R' w') {id b:Nat} (hb:nth R.obj id=some (.bU b)):nth R'.obj id=some (.bU b):=by
 obtain ⟨r,h1,h2⟩:=h.obj id _ hb
 simp only [cw] at h2
 subst h2
 exact h1
theorem Aq.mono {R R':ai} {w w':World} (e:Ext R w R' w') {k:LK} {b o len cap:Nat} (h:Aq R k b o len cap):Aq R' k b o len cap:=by
 cases k with
 | nil=>exact h
 | full=>exact h
 | jP=>trivial
 | own id=>
  obtain ⟨ro,h1,h2⟩:=h
  obtain ⟨lT,h3,h4⟩:=e.obj id ro h1
  refine ⟨lT,h3,?_⟩
  cases ro with
  | none=>simp only [cw] at h4; subst h4; trivial
  | bz=>exact h2.elim
  | bU x=>exact h2.elim
  | tok f x y=>
   cases lT with
   | none=>trivial
   | bz=>exact h4.elim
   | bU z=>exact h4.elim
   | tok f' x' y'=>
    simp only [cw,QR] at *
    refine ⟨by omega,fun e=>?_⟩
    have e1:f'=f:=by omega
    have h5:=h2.2 (by omega)
    have h6:=h4.2 e1
    exact ⟨h5.1.trans h6.1.symm,h5.2.1,h5.2.2.trans h6.2.symm⟩
   | bf _=>exact h4.elim
  | bf _=>exact h2.elim
 | bf id j=>
  obtain ⟨ro,h1,h2⟩:=h
  obtain ⟨lT,h3,h4⟩:=e.obj id ro h1
  refine ⟨lT,h3,?_⟩
  cases ro with
  | none=>simp only [cw] at h4; subst h4; trivial
  | bz=>exact h2.elim
  | bU x=>exact h2.elim
  | tok _ _ _=>exact h2.elim
  | bf ts=>
   cases lT with
   | none=>trivial
   | bz=>exact h4.elim
   | bU z=>exact h4.elim
   | tok _ _ _=>exact h4.elim
   | bf Vh=>
    obtain ⟨t,k1,k2⟩:=h2
    obtain ⟨t',k3,k4⟩:=h4 j t k1
    refine ⟨t',k3,?_⟩
    cases t with
    | bz=>exact k2.elim
    | full f=>
     cases t' with
     | bz=>exact k4.elim
     | full f'=>simp only [lF,MW] at *; subst k4; exact k2
     | tok f' x' y'=>simp only [lF,MW] at *; exact ⟨by omega,fun e=>by omega⟩
    | tok f x y=>
     cases t' with
     | bz=>exact k4.elim
     | full f'=>exact k4.elim
     | tok f' x' y'=>
      simp only [lF,MW] at *
      refine ⟨by omega,fun e=>?_⟩
      have e1:f'=f:=by omega
      have h5:=k2.2 (by omega)
      have h6:=k4.2 e1
      exact ⟨h5.1.trans h6.1.symm,h5.2.1,h5.2.2.trans h6.2.symm⟩
theorem mK.mono {ro lT:RO} (h:mK ro) (e:cw ro lT):mK lT:=by
 cases ro with
 | none=>simp only [cw] at e; subst e; trivial
 | bz=>cases lT <;> first | trivial | exact e.elim | exact e
 | bU _=>exact h.elim
 | tok f x y=>
  cases lT with
  | none=>trivial
  | bz=>exact e.elim
  | bU z=>exact e.elim
  | tok f' x' y'=>simp only [cw,mK] at *; omega
  | bf _=>exact e.elim
 | bf _=>exact h.elim
theorem sL.mono {ro lT:RO} (h:sL ro) (e:cw ro lT):sL lT:=by
 cases ro with
 | none=>simp only [cw] at e; subst e; trivial
 | bz=>exact h.elim
 | bU _=>exact h.elim
 | tok _ _ _=>exact h.elim
 | bf ts=>
  cases lT with
  | none=>trivial
  | bz=>exact e.elim
  | bU z=>exact e.elim
  | tok _ _ _=>exact e.elim
  | bf Vh=>trivial
theorem GV.mono {b o f off sz cap:Nat} {ro lT:RO} (h:GV b o f off sz cap ro) (e:cw ro lT):GV b o f off sz cap lT:=by
 cases ro with
 | none=>simp only [cw] at e; subst e; trivial
 | bz=>exact h.elim
 | bU _=>exact h.elim
 | tok f1 x y=>
  cases lT with
  | none=>trivial
  | bz=>exact e.elim
  | bU z=>exact e.elim
  | tok f' x' y'=>
   simp only [cw,GV] at *
   refine ⟨by omega,fun k=>?_⟩
   obtain ⟨e1,e2⟩:=e.2 (by omega)
   obtain ⟨h1,h2,h3⟩:=h.2 (by omega)
   exact ⟨h1.trans e1.symm,h2.trans e2.symm,h3⟩
  | bf _=>exact e.elim
 | bf _=>exact h.elim
theorem IF.mono {b o f i off sz:Nat} {ro lT:RO} (h:IF b o f i off sz ro) (e:cw ro lT):IF b o f i off sz lT:=by
 cases ro with
 | none=>simp only [cw] at e; subst e; trivial
 | bz=>exact h.elim
 | bU _=>exact h.elim
 | tok f1 x y=>
  cases lT with
  | none=>trivial
  | bz=>exact e.elim
  | bU z=>exact e.elim
  | tok f' x' y'=>
   simp only [cw,IF] at *
   refine ⟨by omega,fun k=>?_⟩
   obtain ⟨e1,e2⟩:=e.2 (by omega)
   obtain ⟨h1,h2⟩:=h.2 (by omega)
   exact ⟨h1.trans e1.symm,h2⟩
  | bf _=>exact e.elim
 | bf _=>exact h.elim
mutual
theorem Rel.mono {R R':ai} {w w':World} (e:Ext R w R' w'):∀ {a:AV} {c:Value},Rel R w a c→Rel R' w' a c
 | _,_,.bool b=>.bool b
 | _,_,.int k n=>.int k n
 | _,_,.str l=>.str l
 | _,_,.agg h h1=>.agg (h.mono e) h1
 | _,_,.bh h=>.bh (h.mono e)
 | _,_,.iA=>.iA
 | _,_,.ptr h=>.ptr (e.bU h)
 | _,_,.ep h=>.ep (h.mono e)
 | _,_,.jE=>.jE
 | _,_,.iR=>.iR
 | _,_,.mL=>.mL
 | _,_,.lZ h ho=>let ⟨_,h3,h4⟩:=e.obj _ _ h; .lZ h3 (ho.mono h4)
 | _,_,.lE h ho=>let ⟨_,h3,h4⟩:=e.obj _ _ h; .lE h3 (ho.mono h4)
 | _,_,.list h hl hc hk=>.list (h.mono e) hl hc (hk.mono e)
 | _,_,.jS h hc=>.jS (e.bU h) hc
 | _,_,.iM h ho=>let ⟨_,h3,h4⟩:=e.obj _ _ h; .iM h3 (ho.mono h4)
 | _,_,.dX h ho hc=>let ⟨_,h3,h4⟩:=e.obj _ _ h; .dX h3 (ho.mono h4) hc
 | _,_,.gp h ho=>let ⟨_,h3,h4⟩:=e.obj _ _ h; .gp h3 (ho.mono h4)
 | _,_,.kr=>.kr
 | _,_,.map h=>.map (e.bU h)
 | _,_,.cz=>.cz
 | _,_,.fn h h'=>.fn (h.mono e) (h'.mono e)
 | _,_,.yield h=>.yield (e.bU h)
 | _,_,.nG=>.nG
 | _,_,.iface h=>.iface (h.mono e)
theorem aM.mono {R R':ai} {w w':World} (e:Ext R w R' w'):∀ {l:List AV} {cs:List Value},aM R w l cs→aM R' w' l cs
 | _,_,.nil=>.nil
 | _,_,.cons h t=>.cons (h.mono e) (t.mono e)
theorem gk.mono {R R':ai} {w w':World} (e:Ext R w R' w'):∀ {b o sz:Nat} {l:List AV},gk R w b o sz l→gk R' w' b o sz l
 | _,_,_,_,.nil=>.nil
 | _,_,_,_,.cons hl ht hk h t=>.cons hl ht hk (h.mono e) (t.mono e)
theorem dP.mono {R R':ai} {w w':World} (e:Ext R w R' w'):∀ {b o:Nat} {l:List AV},dP R w b o l→dP R' w' b o l
 | _,_,_,.nil=>.nil
 | _,_,_,.cons hc h1 hi h t=>.cons ((e.cell _ _ hi).trans hc) h1 (e.I _ _ hi) (h.mono e) (t.mono e)
end
end Go.Am
namespace Go.Am
open Go
section lists
variable {α:Type}
theorem a8 (l:List α) (n:Nat):nth l n=l[n]?:=by
 induction l generalizing n with
 | nil=>simp [nth]
 | cons a l ih=>cases n <;> simp [nth,ih]
theorem gP (l:List α) (n:Nat) (x:α):aD l n x=l.set n x:=by
 induction l generalizing n with
 | nil=>simp [aD]
 | cons a l ih=>cases n <;> simp [aD,ih]
theorem bF {l:List α} {n:Nat} {x:α} (h:nth l n=some x):n < l.length:=by
 rw [a8] at h
 exact (List.getElem?_eq_some_iff.1 h).1
theorem aJ {l:List α} {n:Nat} {x y:α} (h:nth l n=some y):nth (aD l n x) n=some x:=by
 have:=bF h
 rw [a8,gP,List.getElem?_set_self this]
theorem bD {l:List α} {n m:Nat} {x:α} (h:n≠m):nth (aD l n x) m=nth l m:=by
 rw [a8,gP,a8,List.getElem?_set_ne h]
theorem da {l:List α} {n m:Nat} {x y:α} (h:nth (aD l n x) m=some y):(n=m∧y=x∧m < l.length)∨(n≠m∧nth l m=some y):=by
 by_cases e:n=m
 ·subst e
  have hl:=bF h
  rw [gP,List.length_set] at hl
  rw [a8,gP,List.getElem?_set_self hl] at h
  exact .inl ⟨rfl,(Option.some.inj h).symm,hl⟩
 ·rw [bD e] at h
  exact .inr ⟨e,h⟩
@[simp] theorem hZ (l:List α) (n:Nat) (x:α):(aD l n x).length=l.length:=by rw [gP,List.length_set]
theorem eR (l:List α) (x:α):nth (l++[x]) l.length=some x:=by rw [a8]; simp
theorem dc {l:List α} {n:Nat} {y x:α} (h:nth l n=some y):nth (l++[x]) n=some y:=by
 have:=bF h
 rw [a8] at *
 rw [List.getElem?_append_left this]
 exact h
theorem aw {l:List α} {n:Nat} {y x:α} (h:nth (l++[x]) n=some y):nth l n=some y∨(n=l.length∧y=x):=by
 rw [a8] at *
 by_cases e:n < l.length
 ·rw [List.getElem?_append_left e] at h; exact .inl h
 ·rw [List.getElem?_append_right (by omega)] at h
  have hl:=(List.getElem?_eq_some_iff.1 h).1
  simp at hl
  have:n - l.length=0:=by omega
  rw [this] at h
  simp at h
  exact .inr ⟨by omega,h.symm⟩
theorem jj:∀ {l:List α} {n:Nat} {x:α},nth l n=some x→aD l n x=l
 | [],_,_,h=>by cases h
 | a :: l,0,x,h=>by cases h; rfl
 | a :: l,n+1,x,h=>by
  show a :: aD l n x=a :: l
  rw [jj (show nth l n=some x from h)]
end lists
def R4 (R:ai) (w:World) (VV:bc→Array Value→Prop) (busy:Bool) (pending:Option Code) (af:bc) (n:Nat) (params:List Tmp) (assign body:Code) (defers:Nat) (done:Bool) (b:Nat):Prop:=
 ∃ (r:Loop) (db:Nat),w.heap[b]?=some (.loop r)∧r.state=(if done then .done else if busy then .busy else .ready)∧r.pending=pending ∧
  VV af r.tmps∧r.tmps.size=n∧r.params=⟨params⟩∧r.assign=assign∧r.body=body∧r.defers=db∧nth R.obj defers=some (.bU db)
def pC (R:ai) (w:World) (β:Nat→Nat):SV→Value→Prop
 | .none,_=>True
 | .v a,c=>Rel R w a c
 | .lp k off,c=>c=.pointer (some ⟨β k,off,none⟩)
def nP (R:ai) (w:World) (β:Nat→Nat) (af:bc) (tmps:Array Value):Prop:=
 ∀ i,lk af i≠.none→∃ c,tmps[i]?=some c∧pC R w β (lk af i) c
def Fu:bc→Bool
 | []=>true
 | .put _ (.lp _ _) :: _=>false
 | _ :: l=>Fu l
def dp (R:ai) (w:World):List (AV × AV)→List MapEntry→Prop
 | [],[]=>True
 | (k,v) :: l,e :: es=>Rel R w k e.key∧Rel R w v e.val∧dp R w l es
 | _,_=>False
def zh (R:ai) (w:World) (sz:Nat) (e:TypeId) (f:Nat):TR→Prop
 | .bz=>f=0
 | .full f'=>f'=f
 | .tok f' b c=>f'=f∧∃ cur,w.heap[b]?=some (.cells cur e (0,0))∧f≤c∧c≤maxLen∧cur.size=c * sz∧∀ o,f * sz≤o→¬ R.I b o
def VW (ts:List TR):Prop:=∀ i j f b c f' c',nth ts i=some (.tok f b c)→nth ts j=some (.tok f' b c')→i=j
def vB (R:ai) (w:World) (sz:Nat) (e:TypeId) (fs:List Nat) (ts:List TR):Prop:=
 ts.length=fs.length∧VW ts∧∀ j f t,nth fs j=some f→nth ts j=some t→zh R w sz e f t
def jF (az:Array MapEntry) (clock:Nat):Prop:=clock=az.size∧∀ (i:Nat) (e:MapEntry),az.toList[i]?=some e→e.born=i
def VX (R:ai) (w:World) (qb n:Nat) (left:List Nat) (cur:Option Nat) (b:Nat):Prop:=
 ∃ bm seen c0,nth R.obj qb=some (.bU bm)∧w.heap[b]?=some (.mapIter (some bm) n seen c0)∧(∀ i,i < n→(i∈left↔seen.contains i=false))∧(∀ i∈left,i < n)∧left.Nodup∧n≤c0∧∀ i,cur=some i→seen.back?=some i∧c0=n
def gF (R:ai) (w:World):GO→RO→Prop
 | .dead,.none=>True
 | .dead,.bz=>True
 | .dead,.bU b=>b < w.heap.size
 | .dead,.tok _ b _=>b < w.heap.size
 | .dead,.bf ts=>∀ j f b c,nth ts j=some (.tok f b c)→b < w.heap.size
 | .bf fs sz e,.bf ts=>vB R w sz e fs ts
 | .nB qb n left cur _,.bU b=>VX R w qb n left cur b
 | .tok f _ _,.bz=>f=0
 | .row cs el,.bU b=>∃ vs,w.heap[b]?=some (.cells ⟨vs⟩ el (0,0))∧aM R w cs vs∧(∀ v∈vs,v.oneCell'=true)∧∀ o,¬ R.I b o
 | .tok f sz e,.tok f' b c=>f'=f∧∃ cur,w.heap[b]?=some (.cells cur e (0,0))∧f≤c∧c≤maxLen∧cur.size=c * sz∧∀ o,f * sz≤o→¬ R.I b o
 | .dG es _ _,.bz=>es=[]
 | .dG es sz e,.tok f b c=>f=es.length∧dw sz es∧∃ cur vs,w.heap[b]?=some (.cells cur e (0,0))∧f≤c∧c≤maxLen∧cur.size=c * sz∧(∀ o,¬ R.I b o)∧aM R w (av es) vs∧(∀ v∈vs,v.oneCell'=true)∧cur.toList.take (f * sz)=vs
 | .map es,.bU b=>∃ az clock,w.heap[b]?=some (.map az clock)∧dp R w es az.toList∧jF az clock
 | .gB l pos,.bU b=>w.heap[b]?=some (.stringIter ⟨⟨l⟩⟩ pos)
 | .loop busy pending _ af n params assign body defers done,.bU b=>R4 R w (nP R w (fun _=>0)) busy pending af n params assign body defers done b∧Fu af=true
 | .defers o,.bU b=>w.heap[b]?=some (.deferred (if o then some [] else none))
 | _,_=>False
def jG (E:Env) (R:ai) (w:World) (g:Nat) (cs:List AV):Prop:=
 dP R w g 0 cs∧(E.gx g=true→R.I g cs.length∧w.cell? ⟨g,cs.length,none⟩=none)
theorem jG.mono {E:Env} {R R':ai} {w w':World} {g:Nat} {cs:List AV} (h:jG E R w g cs) (e:Ext R w R' w'):jG E R' w' g cs:=
 ⟨h.1.mono e,fun hx=>⟨e.I _ _ (h.2 hx).1,(e.cell _ _ (h.2 hx).1).trans (h.2 hx).2⟩⟩
structure dq (E:Env) (R:ai) (w:World) (G:List GO):Prop where
 len:R.obj.length=G.length
 obj:∀ id go ro,nth G id=some go→nth R.obj id=some ro→gF R w go ro
 inj:∀ i j ri rj b,nth R.obj i=some ri→nth R.obj j=some rj→ri.has b→rj.has b→i=j
 wf:∀ b o,R.I b o→b < w.heap.size
 b6:∀ g cs,E.b6 g=some cs→jG E R w g cs
 lo:E.lo≤w.drawn
def Live (R:ai) (b:Nat):Prop:=∃ id ro,nth R.obj id=some ro∧ro.has b
structure MY (R:ai) (w:World) (β:Nat→Nat) (boxes:cE):Prop where
 box:∀ k cs,dm boxes k=some cs→(∃ vs el,w.heap[β k]?=some (.cells ⟨vs⟩ el (0,0))∧aM R w cs vs∧(∀ v∈vs,v.oneCell'=true))∧(∀ o,¬ R.I (β k) o)∧¬ Live R (β k)
 inj:∀ k k' cs cs',dm boxes k=some cs→dm boxes k'=some cs'→β k=β k'→k=k'
def pD (R:ai):List Nat→List Deferred→Prop
 | [],[]=>True
 | id :: l,d :: ds=>(∃ b,nth R.obj id=some (.bU b)∧d={ target:=.collected b,args:=#[] })∧pD R l ds
 | _,_=>False
structure bi (E:Env) (R:ai) (w:World) (β:Nat→Nat) (s:St) (a:Act):Prop where
 g:dq E R w s.G
 b:MY R w β s.boxes
 t:nP R w β s.af a.tmps
 n:a.tmps.size=s.n
 d:pD R s.marks a.defers
def Own (R:ai) (β:Nat→Nat) (boxes:cE) (b:Nat):Prop:=
 Live R b∨∃ k cs,dm boxes k=some cs∧β k=b
structure Step (R:ai) (w:World) (β:Nat→Nat) (bx:cE) (R':ai) (w':World) (β':Nat→Nat) (IG:cE):Prop where
 ext:Ext R w R' w'
 os:w'.os=w.os
 tape:w'.tape=w.tape
 output:w'.output=w.output
 size:w.heap.size≤w'.heap.size
 cq:∀ b,b < w.heap.size→¬ Own R β bx b→w'.heap[b]?=w.heap[b]?
 own:∀ b,b < w.heap.size→Own R' β' IG b→Own R β bx b
 im:∀ b o,R'.I b o→b < w.heap.size→¬ Own R β bx b→R.I b o
theorem Step.refl (R:ai) (w:World) (β:Nat→Nat) (bx:cE):Step R w β bx R w β bx:=
 ⟨Ext.refl R w,rfl,rfl,rfl,Nat.le_refl _,fun _ _ _=>rfl,fun _ _ h=>h,fun _ _ h _ _=>h⟩
theorem Step.trans {R R1 R2:ai} {w w1 w2:World} {β β1 β2:Nat→Nat} {x x1 x2:cE}
  (h:Step R w β x R1 w1 β1 x1) (k:Step R1 w1 β1 x1 R2 w2 β2 x2):Step R w β x R2 w2 β2 x2 where
 ext:=h.ext.trans k.ext
 os:=k.os.trans h.os
 tape:=k.tape.trans h.tape
 output:=k.output.trans h.output
 size:=Nat.le_trans h.size k.size
 cq:=fun b hb hn=>(k.cq b (Nat.lt_of_lt_of_le hb h.size) (fun ho=>hn (h.own b hb ho))).trans (h.cq b hb hn)
 own:=fun b hb ho=>h.own b hb (k.own b (Nat.lt_of_lt_of_le hb h.size) ho)
 im:=fun b o hi hb hn=>h.im b o (k.im b o hi (Nat.lt_of_lt_of_le hb h.size) (fun ho=>hn (h.own b hb ho))) hb hn
theorem pC.mono {R R':ai} {w w':World} {β:Nat→Nat} (e:Ext R w R' w') {x:SV} {c:Value} (h:pC R w β x c):pC R' w' β x c:=by
 cases x with
 | none=>trivial
 | v a=>exact Rel.mono e h
 | lp k off=>exact h
theorem qY (n:Nat):Nat.beq n n=true:=Nat.beq_refl n
theorem mM {n m:Nat} (h:n≠m):Nat.beq n m=false:=by
 cases hb:Nat.beq n m with
 | true=>exact absurd (Nat.eq_of_beq_eq_true hb) h
 | false=>rfl
theorem aA (l:bc) (d:Nat) (x:SV):lk (.put d x :: l) d=x:=by simp [lk]
theorem aR {l:bc} {d t:Nat} {x:SV} (h:d≠t):lk (.put d x :: l) t=lk l t:=by simp [lk,mM h]
theorem Fv {l:bc} {d t:Nat}:(lk (.kill d :: l) t=lk l t∧∀ k off,lk l t=.lp k off→k≠d)∨lk (.kill d :: l) t=.none:=by
 simp only [lk]
 cases h:lk l t with
 | none=>exact .inr rfl
 | v a=>exact .inl ⟨rfl,fun _ _ e=>by cases e⟩
 | lp k off=>
  by_cases hk:k=d
  ·subst hk
   exact .inr (by simp)
  ·exact .inl ⟨by simp [mM hk],fun k' fN e=>by cases e; exact hk⟩
theorem IH (l:cE) (d:Nat) (cs:List AV):dm ((d,cs) :: l) d=some cs:=by simp [dm]
theorem eT {l:cE} {d k:Nat} {cs cs':List AV} (h:dm ((d,cs) :: l) k=some cs'):(d=k∧cs'=cs)∨(d≠k∧dm l k=some cs'):=by
 by_cases e:d=k
 ·subst e
  rw [IH] at h
  exact .inl ⟨rfl,(Option.some.inj h).symm⟩
 ·simp only [dm,mM e,cond_false] at h
  exact .inr ⟨e,h⟩
theorem MZ {l:cE} (h:l.all (fun p=>ba p.2)=true) {k:Nat} {cs:List AV} (hk:dm l k=some cs):ba cs=true:=by
 induction l with
 | nil=>simp [dm] at hk
 | cons x l ih=>
  obtain ⟨d,c⟩:=x
  simp only [List.all_cons,Bool.and_eq_true] at h
  rcases eT hk with ⟨_,rfl⟩ | ⟨_,hk⟩
  ·exact h.1
  ·exact ih h.2 hk
theorem nP.put {R:ai} {w:World} {β:Nat→Nat} {af:bc} {a:Act} (h:nP R w β af a.tmps) {d:Tmp} {x:SV} {c:Value} (hd:d < a.tmps.size) (hx:pC R w β x c) :
  nP R w β (.put d x :: af) (a.put (some d) c).tmps:=by
 intro i hi
 by_cases e:d=i
 ·subst e
  rw [aA]
  exact ⟨c,by simp [Act.put,hd],hx⟩
 ·rw [aR e] at hi ⊢
  obtain ⟨c',h1,h2⟩:=h i hi
  refine ⟨c',?_,h2⟩
  simp only [Act.put]
  rw [Array.getElem?_setIfInBounds_ne e]
  exact h1
theorem bi.put {E:Env} {R:ai} {w:World} {β:Nat→Nat} {s:St} {a:Act} (h:bi E R w β s a) (dst:Option Tmp) {x:SV} {c:Value} (hx:pC R w β x c) :
  bi E R w β (s.put dst x) (a.put dst c):=by
 cases dst with
 | none=>exact h
 | some d=>
  simp only [St.put]
  cases hb:Nat.blt d s.n with
  | true=>
   have hd:d < a.tmps.size:=by rw [h.n]; exact Nat.le_of_ble_eq_true hb
   exact ⟨h.g,h.b,h.t.put hd hx,by simp [Act.put,h.n],h.d⟩
  | false=>
   have hd:¬ d < a.tmps.size:=by
    rw [h.n]
    intro cg
    have:Nat.blt d s.n=true:=Nat.ble_eq_true_of_le cg
    rw [this] at hb
    cases hb
   have he:a.put (some d) c=a:=by
    simp only [Act.put]
    rw [Array.setIfInBounds_eq_of_size_le (Nat.not_lt.1 hd)]
   rw [he]
   exact h
theorem qZ {R:ai} {w:World} {v:Value} {a:AV} (h:qR v=some a):Rel R w a v∧v.oneCell'=true:=by
 unfold qR at h
 split at h <;> cases h
 ·exact ⟨.bool _,rfl⟩
 ·exact ⟨.int _ _,rfl⟩
 ·rename_i s
  exact ⟨.str s.data.toList,rfl⟩
 ·exact ⟨.jE,rfl⟩
 ·exact ⟨.iA,rfl⟩
 ·exact ⟨.kr,rfl⟩
 ·exact ⟨.cz,rfl⟩
 ·exact ⟨.nG,rfl⟩
theorem mN {R:ai} {w:World}:∀ {vs:List Value} {l:List AV},lU vs=some l→aM R w l vs∧∀ v∈vs,v.oneCell'=true
 | [],l,h=>by simp [lU] at h; subst h; exact ⟨.nil,by simp⟩
 | v :: vs,l,h=>by
  unfold lU at h
  split at h
  ·rename_i a r h1 h2
   cases h
   obtain ⟨k1,k2⟩:=qZ (R:=R) (w:=w) h1
   obtain ⟨k3,k4⟩:=mN (R:=R) (w:=w) h2
   exact ⟨.cons k1 k3,by simp [k2]; exact k4⟩
  ·cases h
theorem tK {R:ai} {w:World} {v:Value} {a:AV} (h:qS v=some a):Rel R w a v:=by
 unfold qS at h
 split at h
 ·rename_i cs
  split at h
  ·rename_i l hl
   cases h
   obtain ⟨k1,k2⟩:=mN (R:=R) (w:=w) hl
   exact .agg (vs:=cs.toList) k1 k2
  ·cases h
 ·rename_i cs
  split at h
  ·rename_i l hl
   cases h
   obtain ⟨k1,_⟩:=mN (R:=R) (w:=w) hl
   exact .bh (vs:=cs.toList) k1
  ·cases h
 ·exact (qZ h).1
theorem aT {E:Env} {R:ai} {w:World} {β:Nat→Nat} {s:St} {a:Act} (h:bi E R w β s a) (x:Operand):pC R w β (bw E s.af x) (a.eval x):=by
 cases x with
 | tmp t=>
  simp only [bw,Act.eval]
  by_cases hn:lk s.af t=.none
  ·rw [hn]; trivial
  ·obtain ⟨c,h1,h2⟩:=h.t t hn
   have:a.tmps.getD t undef=c:=by simp [Array.getD_eq_getD_getElem?,h1]
   rw [this]
   exact h2
 | const v=>
  simp only [bw,Act.eval]
  cases hc:qS v with
  | none=>trivial
  | some y=>exact tK hc
 | global g=>
  simp only [bw,Act.eval]
  cases hg:E.b6 g with
  | none=>trivial
  | some cs=>exact Rel.ep (h.g.b6 g cs hg).1
 | func f=>exact Rel.fn .nil .nil
end Go.Am
