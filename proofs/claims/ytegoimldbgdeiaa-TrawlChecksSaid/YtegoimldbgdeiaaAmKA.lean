/- The abstract machine: its values,its state,and what each operation does (definitions alone). -/
import Derived.CallsIn
import Derived.RangeFuncLeaves
import Derived.Laws.AppendOwn
set_option linter.all false
namespace Go.Am
open Go
inductive LK where
 | nil | full | iU | own (id:Nat) | aX (id j:Nat)
inductive AV where
 | bool (b:Bool)
 | int (k:IntKind) (n:Int)
 | str (s:List UInt8)
 | agg (cs:List AV)
 | bh (vs:List AV)
 | lj
 | ptr (id off:Nat)
 | ep (cs:List AV)
 | list (k:LK) (sz:Nat) (es:List AV)
 | iR (id off sz len cap:Nat)
 | dT (id f off sz len:Nat)
 | gp (id f i off sz:Nat) (t:TypeId)
 | jt
 | map (id:Nat)
 | dD
 | fn (f:FuncId) (first cap:List AV)
 | yield (id:Nat)
 | oB
 | iface (t:TypeId) (v:AV)
def LK.closed:LK→Bool
 | .own _=>false
 | .aX _ _=>false
 | _=>true
mutual
def AV.closed:AV→Bool
 | .agg cs=>aR cs
 | .bh cs=>aR cs
 | .ep cs=>aR cs
 | .list k _ _=>k.closed
 | .fn _ x y=>aR x&&aR y
 | .iface _ v=>v.closed
 | .ptr _ _=>false
 | .iR _ _ _ _ _=>false
 | .dT _ _ _ _ _=>false
 | .gp _ _ _ _ _ _=>false
 | .map _=>false
 | .yield _=>false
 | _=>true
def aR:List AV→Bool
 | []=>true
 | a :: l=>a.closed&&aR l
end
mutual
def AV.gj:AV→AV
 | .agg cs=>.agg (kE cs)
 | .bh cs=>.bh (kE cs)
 | .list (.own _) sz es=>.list .iU sz es
 | .list (.aX _ _) sz es=>.list .iU sz es
 | v=>v
def kE:List AV→List AV
 | []=>[]
 | a :: l=>a.gj :: kE l
end
inductive SV where
 | none
 | v (a:AV)
 | lp (key off:Nat)
inductive XU where
 | put (d:Nat) (x:SV)
 | kill (d:Nat)
abbrev aW:=List XU
abbrev cA:=List (Nat × List AV)
def lk:aW→Nat→SV
 | [],_=>.none
 | .put d x :: l,t=>bif Nat.beq d t then x else lk l t
 | .kill d :: l,t=>match lk l t with
  | .lp k off=>bif Nat.beq k d then .none else .lp k off
  | x=>x
def dy:cA→Nat→Option (List AV)
 | [],_=>none
 | (d,cs) :: l,k=>bif Nat.beq d k then some cs else dy l k
inductive GO where
 | dead
 | row (cs:List AV) (el:TypeId)
 | tok (f sz:Nat) (e:TypeId)
 | aX (fs:List Nat) (sz:Nat) (e:TypeId)
 | gR (pg n:Nat) (left:List Nat) (cur:Option Nat) (t:TypeId)
 | dE (es:List AV) (sz:Nat) (el:TypeId)
 | map (es:List (AV × AV))
 | fZ (s:List UInt8) (pos:Nat)
 | loop (busy:Bool) (pending:Option Code) (fn:FuncId) (ae:aW) (n:Nat) (params:List Tmp) (assign body:Code) (defers:Nat) (done:Bool)
 | defers (open_:Bool)
structure St where
 ae:aW
 boxes:cA
 G:List GO
 marks:List Nat
 ro:Option Nat
 n:Nat
def nth {α:Type}:List α→Nat→Option α
 | [],_=>none
 | a :: _,0=>some a
 | _ :: l,n+1=>nth l n
def az {α:Type}:List α→Nat→α→List α
 | [],_,_=>[]
 | _ :: l,0,x=>x :: l
 | a :: l,n+1,x=>a :: az l n x
def takeN {α:Type}:Nat→List α→Option (List α)
 | 0,_=>some []
 | _+1,[]=>none
 | n+1,a :: l=>match takeN n l with
  | some r=>some (a :: r)
  | none=>none
def fm {α:Type}:Nat→List α→List α
 | 0,l=>l
 | _+1,[]=>[]
 | n+1,_ :: l=>fm n l
def Dm {α:Type} (off n:Nat) (l:List α):Option (List α):=takeN n (fm off l)
def bR {α:Type}:List α→Nat→List α→List α
 | l,_,[]=>l
 | [],_,_ :: _=>[]
 | _ :: l,0,y :: ys=>y :: bR l 0 ys
 | a :: l,n+1,y :: ys=>a :: bR l n (y :: ys)
def AV.cells:AV→List AV
 | .agg cs=>cs
 | v=>[v]
def AV.one:AV→Bool
 | .agg _=>false
 | .bh _=>false
 | _=>true
def pN:Value→Option AV
 | .bool b=>some (.bool b)
 | .int k n=>some (.int k n)
 | .string s=>some (.str s.data.toList)
 | .slice none 0 0=>some (.list .nil 0 [])
 | .pointer none=>some .lj
 | .map none=>some .jt
 | .nilFunc=>some .dD
 | .nilIface=>some .oB
 | _=>none
def ll:List Value→Option (List AV)
 | []=>some []
 | v :: vs=>match pN v,ll vs with
  | some a,some l=>some (a :: l)
  | _,_=>none
def pO:Value→Option AV
 | .agg cs=>match ll cs.toList with
  | some l=>some (.agg l)
  | none=>none
 | .tuple cs=>match ll cs.toList with
  | some l=>some (.bh l)
  | none=>none
 | v=>pN v
inductive TK where
 | sc
 | int (k:IntKind)
 | str
 | st (fs:List (Nat × Nat × Bool))
 | arr (len esz:Nat) (TE:Bool)
 | sl (elem esz:Nat) (TE:Bool) (bg:Nat) (Qs:Option AV)
 | map (key elem:TypeId) (Qs:Option AV)
mutual
inductive EK where
 | no
 | bool
 | int
 | str
 | st (fs:L5)
inductive L5 where
 | nil
 | cons (off sz:Nat) (ag:Bool) (k:EK) (rest:L5)
end
structure TI where
 k:TK
 size:Nat
 agg:Bool
 zero:Option AV
 ek:EK
def iV:TypeDesc→Bool
 | .struct _=>true
 | .array _ _=>true
 | _=>false
def fieldsOf (P:Program):List Field→Option (List (Nat × Nat × Bool))
 | []=>some []
 | f :: fs=>match P.info? f.type,P.underlying f.type,fieldsOf P fs with
  | some i,some u,some l=>some ((f.offset,i.size,iV u) :: l)
  | _,_,_=>none
def fU (i:TypeInfo):Option AV:=match i.zero with
 | some z=>pO z
 | none=>none
def oC (P:Program):TypeDesc→Option TK
 | .int k=>some (.int k)
 | .string=>some .str
 | .struct fs=>match fieldsOf P fs.toList with
  | some l=>some (.st l)
  | none=>none
 | .array n e=>match P.info? e,P.underlying e with
  | some i,some u=>some (.arr n i.size (iV u))
  | _,_=>none
 | .slice e=>match P.info? e,P.underlying e with
  | some i,some u=>some (.sl e i.size (iV u) i.bytes (fU i))
  | _,_=>none
 | .map k e=>match P.info? e with
  | some i=>some (.map k e (fU i))
  | none=>none
 | _=>some .sc
def BA (P:Program) (ek:TypeId→EK):List Field→Option L5
 | []=>some .nil
 | f :: fs => if f.name == "_" then none else match P.info? f.type, P.underlying f.type, BA P ek fs with
  | some i,some u,some l=>some (.cons f.offset i.size (iV u) (ek f.type) l)
  | _,_,_=>none
def tJ (sz:Nat) (ag:Bool) (k:EK):Nat→Nat→L5
 | 0,_=>.nil
 | n+1,i=>.cons (i * sz) sz ag k (tJ sz ag k n (i+1))
def oD (P:Program):Nat→TypeId→EK
 | 0,_=>.no
 | n+1,t=>match P.underlying t with
  | some .bool=>.bool
  | some (.int _)=>.int
  | some .string=>.str
  | some (.struct fs)=>if P.stoodInHeld t then .no else match BA P (oD P n) fs.toList with
   | some l=>.st l
   | none=>.no
  | some (.array m e)=>match P.info? e,P.underlying e with
   | some i,some u=>.st (tJ i.size (iV u) (oD P n e) m 0)
   | _,_=>.no
  | _=>.no
def r8 (P:Program) (t:TypeId):EK:=match oD P 6 t with
 | .st l=>if P.eqGuardType P.depth t then .no else .st l
 | k=>k
def Ev (P:Program) (t:TypeId):Option TI:=
 match P.info? t,P.underlying t with
 | some i,some u=>match oC P u with
  | some k=>some { k:=k,size:=i.size,agg:=iV u,zero:=fU i,ek:=r8 P t }
  | none=>none
 | _,_=>none
def pP:AV→AV→Bool
 | .bool a,.bool b=>a == b
 | .int k a,.int k' b=>(k == k')&&a == b
 | .str a,.str b=>a == b
 | .lj,.lj=>true
 | .ptr i o,.ptr i' o'=>Nat.beq i i'&&Nat.beq o o'
 | .jt,.jt=>true
 | .map i,.map i'=>Nat.beq i i'
 | .dD,.dD=>true
 | .oB,.oB=>true
 | .iR a b c d e,.iR a' b' c' d' e'=>Nat.beq a a'&&Nat.beq b b'&&Nat.beq c c'&&Nat.beq d d'&&Nat.beq e e'
 | .dT a b c d e,.dT a' b' c' d' e'=>Nat.beq a a'&&Nat.beq c c'&&Nat.beq d d'&&(Nat.beq b b'&&Nat.beq e e')
 | .gp a b c d e t,.gp a' b' c' d' e' t'=>Nat.beq a a'&&Nat.beq b b'&&Nat.beq c c'&&Nat.beq d d'&&Nat.beq e e'&&Nat.beq t t'
 | _,_=>false
mutual
def cX:AV→AV→Bool
 | .fn f x y,.fn f' x' y'=>Nat.beq f f'&&bo x x'&&bo y y'
 | .agg cs,.agg eQ=>bo cs eQ
 | .ep cs,.ep eQ=>bo cs eQ
 | .bh cs,.bh eQ=>bo cs eQ
 | .list .nil a es,.list .nil a' es'=>Nat.beq a a'&&bo es es'
 | .list .full a es,.list .full a' es'=>Nat.beq a a'&&bo es es'
 | .list .iU a es,.list .iU a' es'=>Nat.beq a a'&&bo es es'
 | .list (.own i) a es,.list (.own i') a' es'=>Nat.beq i i'&&Nat.beq a a'&&bo es es'
 | .list (.aX i j) a es,.list (.aX i' j') a' es'=>Nat.beq i i'&&Nat.beq j j'&&Nat.beq a a'&&bo es es'
 | a,b=>pP a b
def bo:List AV→List AV→Bool
 | [],[]=>true
 | a :: l,b :: r=>cX a b&&bo l r
 | _,_=>false
end
mutual
inductive ah
 | int (k:IntKind)
 | bool
 | str
 | agg (ps:aH)
 | bh (ps:aH)
 | list (sz:Nat) (p:ah)
 | own (id sz:Nat) (p:ah)
 | aX (id sz:Nat) (p:ah)
 | oH (v:AV)
 | two (u v:AV)
inductive aH
 | nil
 | cons (p:ah) (ps:aH)
end
def Qt (s:Bool) (α β:Type):Type:=match s with
 | true=>α
 | false=>α × β
def aH.isNil:aH→Bool
 | .nil=>true
 | .cons _ _=>false
mutual
def ah.T:ah→Type
 | .int _=>Int
 | .bool=>Bool
 | .str=>List UInt8
 | .agg ps=>ps.T
 | .bh ps=>ps.T
 | .list _ p=>List p.T
 | .own _ _ p=>List p.T
 | .aX _ _ p=>Nat × List p.T
 | .oH _=>Unit
 | .two _ _=>Bool
def aH.T:aH→Type
 | .nil=>Unit
 | .cons p ps=>Qt ps.isNil p.T ps.T
end
mutual
def ah.enc:(p:ah)→p.T→AV
 | .int k,(n:Int)=>.int k n
 | .bool,(b:Bool)=>.bool b
 | .str,(s:List UInt8)=>.str s
 | .agg ps,x=>.agg (ps.enc x)
 | .bh ps,x=>.bh (ps.enc x)
 | .list sz p,(xs:List p.T)=>.list .iU sz (xs.map p.enc)
 | .own id sz p,(xs:List p.T)=>.list (.own id) sz (xs.map p.enc)
 | .aX id sz p,(x:Nat × List p.T)=>.list (.aX id x.1) sz (x.2.map p.enc)
 | .oH v,_=>v
 | .two u v,(b:Bool)=>bif b then v else u
def aH.enc:(ps:aH)→ps.T→List AV
 | .nil,_=>[]
 | .cons p .nil,x=>[p.enc x]
 | .cons p (.cons q ps),x=>p.enc x.1 :: (aH.cons q ps).enc x.2
end
def PJ:IntKind→IntKind→Bool:=fun a b=>decide (a=b)
def AV.iV:AV→List AV
 | .agg cs=>cs
 | _=>[]
def AV.L6:AV→List AV
 | .bh cs=>cs
 | _=>[]
def AV.dJ:AV→List AV
 | .list _ _ es=>es
 | _=>[]
def AV.TF:AV→Nat
 | .list (.aX _ j) _ _=>j
 | _=>0
def AV.ph:AV→Int
 | .int _ n=>n
 | _=>0
def AV.Qu:AV→Bool
 | .bool b=>b
 | _=>false
def AV.L7:AV→List UInt8
 | .str s=>s
 | _=>[]
def dU:List AV→AV
 | a :: _=>a
 | []=>.lj
def F0:List AV→List AV
 | _ :: l=>l
 | []=>[]
mutual
def ah.ba:(p:ah)→AV→p.T
 | .int _,v=>v.ph
 | .bool,v=>v.Qu
 | .str,v=>v.L7
 | .agg ps,v=>ps.ba v.iV
 | .bh ps,v=>ps.ba v.L6
 | .list _ p,v=>v.dJ.map p.ba
 | .own _ _ p,v=>v.dJ.map p.ba
 | .aX _ _ p,v=>(v.TF,v.dJ.map p.ba)
 | .oH _,_=>()
 | .two _ v,a=>cX a v
def aH.ba:(ps:aH)→List AV→ps.T
 | .nil,_=>()
 | .cons p .nil,l=>p.ba (dU l)
 | .cons p (.cons q ps),l=>(p.ba (dU l),(aH.cons q ps).ba (F0 l))
end
def allFit (f:AV→Bool):List AV→Bool
 | []=>true
 | a :: l=>f a&&allFit f l
mutual
def ah.fits:ah→AV→Bool
 | .int k,v=>match v with
  | .int k' _=>PJ k k'
  | _=>false
 | .bool,v=>match v with
  | .bool _=>true
  | _=>false
 | .str,v=>match v with
  | .str _=>true
  | _=>false
 | .agg ps,v=>match v with
  | .agg cs=>ps.fits cs
  | _=>false
 | .bh ps,v=>match v with
  | .bh cs=>ps.fits cs
  | _=>false
 | .list sz p,v=>match v with
  | .list _ bq es=>(Nat.beq sz bq || es.isEmpty)&&allFit p.fits es
  | _=>false
 | .own id sz p,v=>match v with
  | .list (.own iS) bq es=>(Nat.beq id iS&&Nat.beq sz bq)&&allFit p.fits es
  | _=>false
 | .aX id sz p,v=>match v with
  | .list (.aX iS _) bq es=>(Nat.beq id iS&&Nat.beq sz bq)&&allFit p.fits es
  | _=>false
 | .oH v,u=>cX u v
 | .two u v,a=>cX a u || cX a v
def aH.fits:aH→List AV→Bool
 | .nil,l=>l.isEmpty
 | .cons p ps,l=>match l with
  | a :: l=>p.fits a&&ps.fits l
  | []=>false
end
def ah.dec (p:ah) (v:AV):Option p.T:=bif p.fits v then some (p.ba v) else none
def aH.dec (ps:aH) (l:List AV):Option ps.T:=bif ps.fits l then some (ps.ba l) else none
structure Env where
 P:Program
 ti:TypeId→Option TI
 dK:Nat→Option (List AV)
 wG:FuncId→Tmp→Bool
 IX:TypeId→Option ah
 lo:Nat:=0
 We:FuncId→Tmp→List (Option Nat × Nat × TypeId):=fun _ _=>[]
 SR:TypeId→Option ah:=fun _=>none
 gx:Nat→Bool:=fun _=>false
 Ew:∀ t i,ti t=some i→Ev P t=some i
 mixed:P.follows .mixedOrders=true
 yi:∀ g cs,dK g=some cs→aR cs=true
def bi (E:Env) (ae:aW):Operand→SV
 | .tmp t=>lk ae t
 | .const v=>match pO v with
  | some a=>.v a
  | none=>.none
 | .global g=>match E.dK g with
  | some cs=>.v (.ep cs)
  | none=>.none
 | .func f=>.v (.fn f [] [])
def St.put (s:St) (dst:Option Tmp) (x:SV):St:=match dst with
 | some d=>match Nat.blt d s.n with
  | true=>⟨.put d x :: s.ae,s.boxes,s.G,s.marks,s.ro,s.n⟩
  | false=>s
 | none=>s
def fG:AV:=.bh []
def rq (agg:Bool) (cs:List AV):Option AV:=
 if agg then some (.agg cs) else match cs with
  | [c]=>some c
  | _=>none
def lS (s:St):SV→Option (List AV × Nat)
 | .lp k off=>match dy s.boxes k with
  | some cs=>some (cs,off)
  | none=>none
 | .v (.ptr id off)=>match nth s.G id with
  | some (.row cs _)=>some (cs,off)
  | _=>none
 | .v (.ep cs)=>some (cs,0)
 | _=>none
def xd (n:Nat):SV→Option SV
 | .lp k off=>some (.lp k (off+n))
 | .v (.ptr id off)=>some (.v (.ptr id (off+n)))
 | .v (.ep cs)=>some (.v (.ep (fm n cs)))
 | .v (.gp id f i off sz t)=>some (.v (.gp id f i (off+n) sz t))
 | _=>none
def yj (t:Bool):AV→AV→AV
 | .bool x,.bool y=>.bool (bif t then x else y)
 | .int k x,.int k' y=>if k=k' then .int k (bif t then x else y) else (bif t then .int k x else .int k' y)
 | a,b=>bif t then a else b
def Dn (ag:Bool) (off sz:Nat) (cs:List AV):Option AV:=
 if ag then (match Dm off sz cs with | some l=>rq true l | none=>none) else (match Dm off 1 cs with | some l=>rq false l | none=>none)
mutual
def kz:EK→AV→AV→Option Bool
 | .bool,.bool a,.bool b=>some (a == b)
 | .int,.int k a,.int k' b=>if k=k' then some (a == b) else none
 | .str,.str a,.str b=>some (a == b)
 | .st fs,.agg xs,.agg ys=>rr fs xs ys
 | _,_,_=>none
def rr:L5→List AV→List AV→Option Bool
 | .nil,_,_=>some true
 | .cons off sz ag k rest,xs,ys=>match Dn ag off sz xs,Dn ag off sz ys with
  | some a,some b=>match kz k a b,rr rest xs ys with
   | some t,some u=>some (t&&u)
   | _,_=>none
  | _,_=>none
end
def L8 (k:IntKind) (a b:Int):Int:=k.wrap (BitVec.ofInt k.bits a &&& BitVec.ofInt k.bits b).toNat
def TG (k:IntKind) (a b:Int):Int:=k.wrap (BitVec.ofInt k.bits a ||| BitVec.ofInt k.bits b).toNat
def L9 (k:IntKind) (a b:Int):Int:=k.wrap (BitVec.ofInt k.bits a ^^^ BitVec.ofInt k.bits b).toNat
def zL (op:BinOp) (x y:AV):Option (Bool × AV):=
 match x,y with
 | .int k a,.int k' b=>
  match op with
  | .shl=>some (decide (0≤b),.int k (k.wrap (a * 2 ^ (min b.toNat k.bits))))
  | .shr=>some (decide (0≤b),.int k (a.fdiv (2 ^ (min b.toNat k.bits))))
  | _=>if k=k' then
    match op with
    | .add=>some (true,.int k (k.wrap (a+b)))
    | .sub=>some (true,.int k (k.wrap (a - b)))
    | .mul=>some (true,.int k (k.wrap (a * b)))
    | .quo=>some (!(decide (b=0)),.int k (k.wrap (a.tdiv b)))
    | .rem=>some (!(decide (b=0)),.int k (a.tmod b))
    | .and=>some (true,.int k (L8 k a b))
    | .or=>some (true,.int k (TG k a b))
    | .xor=>some (true,.int k (L9 k a b))
    | .eql=>some (true,.bool (a == b))
    | .neq=>some (true,.bool (a != b))
    | .lss=>some (true,.bool (a < b))
    | .leq=>some (true,.bool (a≤b))
    | .gtr=>some (true,.bool (a > b))
    | .geq=>some (true,.bool (a≥b))
    | _=>none
   else none
 | .str a,.str b=>
  match op with
  | .add=>some (decide (a.length+b.length≤9223372036854775807),.str (a++b))
  | .eql=>some (true,.bool (a == b))
  | .neq=>some (true,.bool (!(a == b)))
  | .lss=>some (true,.bool (Op.bytesLess a b))
  | .leq=>some (true,.bool (Op.bytesLess a b || a == b))
  | .gtr=>some (true,.bool (!(Op.bytesLess a b || a == b)))
  | .geq=>some (true,.bool (!(Op.bytesLess a b)))
  | _=>none
 | _,_=>none
end Go.Am
namespace Go.Am
open Go
def St.kill (s:St) (d:Nat):St:=⟨.kill d :: s.ae,s.boxes,s.G,s.marks,s.ro,s.n⟩
def AV.aP:AV→Bool
 | .bh _=>false
 | _=>true
def St.dH (s:St) (o:GO):St:=⟨s.ae,s.boxes,s.G++[o],s.marks,s.ro,s.n⟩
def St.bO (s:St) (G:List GO):St:=⟨s.ae,s.boxes,G,s.marks,s.ro,s.n⟩
def St.sM (s:St) (d:Nat) (cs:List AV):St:=⟨s.ae,(d,cs) :: s.boxes,s.G,s.marks,s.ro,s.n⟩
def eR (E:Env) (f:FuncId) (s:St) (dst:Option Tmp) (el:TypeId) (cs:List AV):Option (Bool × St):=
 match dst with
 | none=>none
 | some d=>
  if E.wG f d then some (true,(s.dH (.row cs el)).put (some d) (.v (.ptr s.G.length 0)))
  else match Nat.blt d s.n with
   | true=>some (true,((s.kill d).sM d cs).put (some d) (.lp d 0))
   | false=>none
def kS (E:Env) (ae:aW):List Operand→Option (List AV)
 | []=>some []
 | x :: l=>match bi E ae x,kS E ae l with
  | .v a,some r=>some (a :: r)
  | _,_=>none
def IC (E:Env) (ae:aW):List (Nat × Operand)→Option (List (Nat × AV))
 | []=>some []
 | (i,x) :: l=>match bi E ae x,IC E ae l with
  | .v a,some r=>some ((i,a) :: r)
  | _,_=>none
def placeOf:TK→Nat→Option (Nat × Nat)
 | .st fs,j=>match nth fs j with
  | some (o,sz,_)=>some (o,sz)
  | none=>none
 | .arr _ esz _,j=>some (j * esz,esz)
 | _,_=>none
def r9 (place:Nat→Option (Nat × Nat)) (cells:List AV):List (Nat × AV)→Option (List AV)
 | []=>some cells
 | (i,v) :: rest=>match place i with
  | none=>none
  | some (off,sz)=>
   if v.aP&&Nat.beq v.cells.length sz&&Nat.ble (off+sz) cells.length then r9 place (bR cells off v.cells) rest else none
def zM (esz:Nat) (es:List AV):List (Nat × AV)→Option (List AV)
 | []=>some es
 | (i,v) :: rest=>
  if v.aP&&Nat.beq v.cells.length esz&&Nat.ble (i+1) es.length&&v.closed then zM esz (az es i v) rest else none
def lT (E:Env) (s:St) (t:TypeId) (parts:List (Nat × Operand)):Option AV:=
 match E.ti t,IC E s.ae parts with
 | some i,some ps=>match i.zero with
  | some z=>match r9 (placeOf i.k) z.cells ps with
   | some cs=>if i.agg&&z.aP then some (.agg cs) else none
   | none=>none
  | none=>none
 | _,_=>none
def xe:List (Nat × AV)→List (Nat × AV)
 | []=>[]
 | (i,v) :: l=>(i,v.gj) :: xe l
def bQ (E:Env) (s:St) (t:TypeId) (len:Nat) (parts:List (Nat × Operand)):Option AV:=
 match E.ti t,IC E s.ae parts with
 | some i,some ps=>match i.k with
  | .sl _ esz _ _ (some z)=>
    if Nat.beq z.cells.length esz&&Nat.ble 1 esz&&Nat.ble (len * esz) 16777216&&z.aP&&z.closed then
     match zM esz (List.replicate len z) (xe ps) with
     | some es=>some (.list .full esz es)
     | none=>none
    else none
  | _=>none
 | _,_=>none
def pQ (E:Env) (s:St) (t:TypeId) (p:SV):Option AV:=
 match E.ti t,lS s p with
 | some i,some (cs,off)=>match Dm off i.size cs with
  | some l=>rq i.agg l
  | none=>none
 | _,_=>none
def iW (E:Env) (s:St) (t:TypeId) (p x:SV):Option St:=
 match E.ti t,x with
 | some i,.v v=>
  if v.aP&&Nat.beq v.cells.length i.size then
   match p with
   | .lp k off=>match dy s.boxes k with
    | some cs=>if Nat.ble (off+v.cells.length) cs.length then some (s.sM k (bR cs off v.cells)) else none
    | none=>none
   | .v (.ptr id off)=>match nth s.G id with
    | some (.row cs el)=>if Nat.ble (off+v.cells.length) cs.length then some (s.bO (az s.G id (.row (bR cs off v.cells) el))) else none
    | _=>none
   | _=>none
  else none
 | _,_=>none
def ai (es:List AV) (n:Nat):AV:=match nth es n with
 | some e=>e
 | none=>fG
def iA:List GO→Nat→TypeId→Nat→Option Nat
 | [],_,_,_=>none
 | .aX _ sz e :: G,bq,e',i=>match iA G bq e' (i+1) with
  | some j=>some j
  | none=>bif Nat.beq sz bq&&Nat.beq e e' then some i else none
 | _ :: G,bq,e',i=>iA G bq e' (i+1)
def ah.fin (G:List GO):ah→ah
 | .aX e sz p=>match iA G sz e 0 with
  | some id=>.aX id sz p
  | none=>.aX e sz p
 | .agg ps=>.agg (Qv ps)
 | p=>p
where
 Qv:aH→aH
  | .nil=>.nil
  | .cons p ps=>.cons (match p with
   | .aX e sz q=>match iA G sz e 0 with
    | some id=>.aX id sz q
    | none=>.aX e sz q
   | p=>p) (Qv ps)
def KU (E:Env) (G:List GO) (t:TypeId):Option ah:=match E.SR t with
 | some p=>some (p.fin G)
 | none=>E.IX t
def tK (E:Env) (s:St) (id f i sz:Nat) (t:TypeId):Option (Bool × AV):=match nth s.G id with
 | some (.dE es bq _)=>match KU E s.G t with
  | some p=>if Nat.beq sz bq then some (decide (f=es.length)&&decide (i < es.length)&&p.fits (ai es i),p.enc (p.ba (ai es i))) else none
  | none=>if Nat.beq sz bq then some (decide (f=es.length)&&decide (i < es.length),ai es i) else none
 | _=>none
def xf (E:Env) (s:St) (t:TypeId) (p:SV):Option (Bool × AV):=match p with
 | .v (.gp id f i off sz ty)=>match E.ti t,tK E s id f i sz ty with
  | some ti,some (c,v)=>match Dm off ti.size v.cells with
   | some l=>match rq ti.agg l with
    | some r=>some (c,r)
    | none=>none
   | none=>none
  | _,_=>none
 | p=>match pQ E s t p with
  | some v=>some (true,v)
  | none=>none
def iX (E:Env) (s:St) (t:TypeId) (p x:SV):Option (Bool × St):=match p with
 | .v (.gp id f i off sz ty)=>match E.ti t,x,nth s.G id with
  | some ti,.v x,some (.dE es bq el)=>
   if x.aP&&Nat.beq x.cells.length ti.size&&Nat.beq sz bq then
    if Nat.beq off 0&&Nat.beq ti.size sz then some (decide (f=es.length)&&decide (i < es.length),s.bO (az s.G id (.dE (az es i x) bq el)))
    else match tK E s id f i sz ty with
     | some (c,.agg cs)=>if Nat.ble (off+ti.size) cs.length&&Nat.beq cs.length sz then some (c,s.bO (az s.G id (.dE (az es i (.agg (bR cs off x.cells))) bq el))) else none
     | _=>none
   else none
  | _,_,_=>none
 | p=>match iW E s t p x with
  | some s'=>some (true,s')
  | none=>none
def jR (E:Env) (t:TypeId) (x ix:SV):Option (Bool × SV):=
 match E.ti t,ix with
 | some i,.v (.int _ n)=>match i.k,x with
  | .sl _ esz _ _ _,.v (.list _ sz es)=>if Nat.beq sz esz || es.isEmpty then
    match E.IX t with
    | some p=>some (decide (0≤n∧n < es.length)&&p.fits (ai es n.toNat),.v (.ep (p.enc (p.ba (ai es n.toNat))).cells))
    | none=>some (decide (0≤n∧n < es.length),.v (.ep (ai es n.toNat).cells))
   else none
  | .sl _ esz _ _ _,.v (.iR id off sz len _)=>if Nat.beq sz esz then some (decide (0≤n∧n < len),.v (.ptr id (off+n.toNat * sz))) else none
  | .sl _ esz _ _ _,.v (.dT id f off sz len)=>if Nat.beq sz esz then some (decide (0≤n∧n < len),.v (.gp id f (off+n.toNat) 0 sz t)) else none
  | .arr len esz _,.v (.ep cs)=>match E.IX t with
   | some p=>if Nat.beq esz 1&&Nat.ble len cs.length then some (decide (0≤n∧n < len)&&p.fits (ai cs n.toNat),.v (.ep [p.enc (p.ba (ai cs n.toNat))])) else none
   | none=>some (decide (0≤n∧n < len),.v (.ep (fm (n.toNat * esz) cs)))
  | .arr len esz _,p=>match xd (n.toNat * esz) p with
   | some q=>some (decide (0≤n∧n < len),q)
   | none=>none
  | _,_=>none
 | _,_=>none
def jS (E:Env) (t:TypeId) (x:SV) (j:Nat):Option SV:=
 match E.ti t with
 | some i=>match i.k with
  | .st fs=>match nth fs j with
   | some (o,sz,_)=>if Nat.ble 1 sz then xd o x else none
   | none=>none
  | _=>none
 | none=>none
def BB (E:Env) (t:TypeId) (x:SV) (j:Nat):Option AV:=
 match E.ti t,x with
 | some i,.v (.agg cs)=>match i.k with
  | .st fs=>match nth fs j with
   | some (o,sz,ag)=>if ag then (match Dm o sz cs with | some l=>rq true l | none=>none) else (match Dm o 1 cs with | some l=>rq false l | none=>none)
   | none=>none
  | _=>none
 | _,_=>none
def BC (E:Env) (t:TypeId) (x ix:SV):Option (Bool × AV):=
 match E.ti t,x,ix with
 | some i,.v (.str l),.v (.int _ n)=>match i.k with
  | .str=>some (decide (0≤n∧n < l.length),.int .u8 (l.getD n.toNat 0).toNat)
  | _=>none
 | some i,.v (.agg cs),.v (.int _ n)=>match i.k with
  | .arr len esz ag=>match (if ag then (match Dm (n.toNat * esz) esz cs with | some l=>rq true l | none=>none) else (match Dm (n.toNat * esz) 1 cs with | some l=>rq false l | none=>none)) with
   | some v=>some (decide (0≤n∧n < len),v)
   | none=>none
  | _=>none
 | _,_,_=>none
def yk (y:Nat):SV→Option (Bool × Nat)
 | .v (.int _ n)=>some (decide (0≤n∧n≤y),n.toNat)
 | _=>none
def hZ {α:Type} (lo hi:Nat) (l:List α):List α:=(l.take hi).drop lo
def lU (E:Env) (ae:aW):Option Operand→Option (Option SV)
 | none=>some none
 | some x=>some (some (bi E ae x))
def BD (len:Nat) (lo hi:Option SV):Option (Bool × Nat × Nat):=
 match (match hi with | none=>some (true,len) | some h=>yk len h) with
 | none=>none
 | some (c1,h)=>match (match lo with | none=>some (true,0) | some l=>yk h l) with
  | none=>none
  | some (c2,l)=>some (c1&&c2,l,h)
def Qw (agg:Bool) (l:List AV):AV:=match agg with
 | true=>.agg l
 | false=>dU l
def gB (agg:Bool) (sz:Nat):Nat→List AV→List AV
 | 0,_=>[]
 | n+1,cs=>Qw agg (cs.take sz) :: gB agg sz n (cs.drop sz)
def BE (ag:Bool) (e:AV):Bool:=e.aP&&(ag || e.one)&&e.closed
def yl (E:Env) (t:TypeId) (x:SV) (lo hi:Option SV) (mx:Option Operand):Option (Bool × AV):=
 match E.ti t,mx with
 | some i,none=>match i.k,x with
  | .str,.v (.str l)=>match BD l.length lo hi with
   | some (c,a,b)=>some (c,.str (hZ a b l))
   | none=>none
  | .sl _ esz _ _ _,.v (.list k sz es)=>
   if Nat.beq sz esz || es.isEmpty then
    match BD es.length lo hi with
    | some (c,a,b)=>some (c,.list (match k with | .nil=>.nil | .full=>(match hi with | none=>.full | some _=>.iU) | _=>.iU) esz (hZ a b es))
    | none=>none
   else none
  | .sl _ esz _ _ _,.v (.iR id off sz len cap)=>
   if Nat.beq sz esz then
    match BD len lo hi with
    | some (c,a,b)=>some (c,.iR id (bif Nat.beq cap a then off else off+a * sz) sz (b - a) (cap - a))
    | none=>none
   else none
  | .sl _ esz _ _ _,.v (.dT id f off sz len)=>
   if Nat.beq sz esz then
    match BD len lo hi with
    | some (c,a,b)=>some (c,.dT id f (off+a) sz (b - a))
    | none=>none
   else none
  | .arr len esz ag,.v (.ep cs)=>match lo,hi with
   | none,none=>if Nat.ble (len * esz) cs.length&&Nat.ble 1 esz&&(ag || Nat.beq esz 1)&&allFit (BE ag) (gB ag esz len cs) then some (true,.list .full esz (gB ag esz len cs)) else none
   | _,_=>none
  | _,_=>none
 | _,_=>none
def F1 (G:List GO) (id n:Nat) (f sz:Nat) (e:TypeId):List GO:=az G id (.tok (f+n) sz e)
def Ex (fs:List Nat) (j n:Nat):List Nat:=bif Nat.beq j fs.length then fs++[n] else az fs j n
def IY (fs:List Nat) (j n:Nat):Bool:=decide (nth fs j=some n) || (Nat.beq j fs.length&&Nat.beq n 0)
def eS (G:List GO) (elem esz bg:Nat) (x:AV) (ys:List AV):Option (Bool × AV × List GO):=
 match x,ys with
 | .list k sz es,[]=>match k with
  | .nil=>some (true,.list .nil sz es,G)
  | k=>some (true,.list k sz es,G)
 | .list k sz es,y :: ys=>
  match k with
  | .nil=>some (decide ((es.length+(y :: ys).length) * bg≤140737488355328),.list (.own G.length) esz (es++(y :: ys)),G++[.tok (es.length+(y :: ys).length) esz elem])
  | .full=>if Nat.beq sz esz then some (decide ((es.length+(y :: ys).length) * bg≤140737488355328),.list (.own G.length) esz (es++(y :: ys)),G++[.tok (es.length+(y :: ys).length) esz elem]) else none
  | .own id=>match nth G id with
   | some (.tok f bq e')=>if Nat.beq bq esz&&Nat.beq e' elem&&Nat.beq sz esz then
     some (decide (f=es.length)&&decide ((es.length+(y :: ys).length) * bg≤140737488355328),.list (.own id) esz (es++(y :: ys)),F1 G id (y :: ys).length f esz elem) else none
   | _=>none
  | .aX id j=>match nth G id with
   | some (.aX fs bq e')=>if Nat.beq bq esz&&Nat.beq e' elem&&Nat.beq sz esz then
     some (IY fs j es.length&&decide ((es.length+(y :: ys).length) * bg≤140737488355328),.list (.aX id j) esz (es++(y :: ys)),az G id (.aX (Ex fs j (es.length+(y :: ys).length)) esz elem)) else none
   | _=>none
  | .iU=>none
 | .dT id f off sz len,[]=>some (true,.dT id f off sz len,G)
 | .dT id f off sz len,y :: ys=>match nth G id with
  | some (.dE es bq e')=>if Nat.beq bq esz&&Nat.beq e' elem&&Nat.beq sz esz then
    some (decide (f=es.length)&&decide (off=0)&&decide (len=f)&&decide ((es.length+(y :: ys).length) * bg≤140737488355328),.dT id (es.length+(y :: ys).length) 0 esz (es.length+(y :: ys).length),az G id (.dE (es++(y :: ys)) esz elem)) else none
  | _=>none
 | _,_=>none
def pR (b:UInt8):AV:=.int .u8 b.toNat
def pi (es:List AV):List UInt8:=es.map fun a=>UInt8.ofNat a.ph.toNat
def tL (es:List AV):List UInt8:=es.flatMap fun a=>(Utf8.encode a.ph).data.toList
def Ey:AV→List AV→Option AV
 | x,[]=>some x
 | .int k x,.int k' y :: l=>if k=k' then Ey (.int k (if y > x then y else x)) l else none
 | _,_=>none
def BF:AV→List AV→Option AV
 | x,[]=>some x
 | .int k x,.int k' y :: l=>if k=k' then BF (.int k (if y < x then y else x)) l else none
 | .str x,.str y :: l=>BF (.str (bif Op.bytesLess x y || x == y then x else y)) l
 | _,_=>none
def au:List AV→List AV
 | []=>[]
 | e :: es=>e.cells++au es
def pS (s:St) (esz:Nat) (d x:AV):Option (Nat × List GO):=
 match d with
 | .iR id off sz len _=>match nth s.G id with
  | some (.row cs el)=>
   if Nat.beq sz esz then
    match x with
    | .list _ bq es=>if Nat.beq bq esz || es.isEmpty then
      let n:=Nat.min es.length len
      let l:=au (es.take n)
      if Nat.ble (off+l.length) cs.length then some (n,az s.G id (.row (bR cs off l) el)) else none
     else none
    | .str bs=>
      if Nat.beq esz 1&&Nat.ble (off+(bs.take (Nat.min bs.length len)).length) cs.length then some (Nat.min bs.length len,az s.G id (.row (bR cs off ((bs.take (Nat.min bs.length len)).map pR)) el)) else none
    | .iR iS fH bq BG _=>match nth s.G iS with
     | some (.row eQ _)=>
      let n:=Nat.min BG len
      match Dm fH (n * esz) eQ with
      | some l=>if Nat.beq bq esz&&Nat.ble (off+l.length) cs.length then some (n,az s.G id (.row (bR cs off l) el)) else none
      | none=>none
     | _=>none
    | _=>none
   else none
  | _=>none
 | .dT id f off sz len=>match nth s.G id,x with
  | some (.dE es bq el),.list _ TH xs=>if Nat.beq sz esz&&Nat.beq bq sz&&(Nat.beq TH esz || xs.isEmpty)&&Nat.ble f es.length&&Nat.ble es.length f&&Nat.ble (off+Nat.min xs.length len) es.length then
    some (Nat.min xs.length len,az s.G id (.dE (bR es off (xs.take (Nat.min xs.length len))) bq el)) else none
  | _,_=>none
 | _=>none
def bG (E:Env) (s:St) (dst:Option Tmp) (b:Builtin) (args:List AV) (tys:List TypeId):Option (Bool × St):=
 match b,args with
 | .len,[x]=>match tys with
  | t :: _=>match E.ti t with
   | some i=>match i.k,x with
    | .str,.str l=>some (true,s.put dst (.v (.int .i64 l.length)))
    | .sl ..,.list _ _ es=>some (true,s.put dst (.v (.int .i64 es.length)))
    | .sl ..,.iR _ _ _ len _=>some (true,s.put dst (.v (.int .i64 len)))
    | .sl ..,.dT _ _ _ _ len=>some (true,s.put dst (.v (.int .i64 len)))
    | .arr n _ _,_=>some (true,s.put dst (.v (.int .i64 n)))
    | .map ..,.jt=>some (true,s.put dst (.v (.int .i64 0)))
    | .map ..,.map id=>match nth s.G id with
     | some (.map es)=>some (true,s.put dst (.v (.int .i64 es.length)))
     | _=>none
    | _,_=>none
   | none=>none
  | _=>none
 | .append,[x,.list _ sz ys]=>match tys with
  | [t,u]=>match E.ti t with
   | some i=>match i.k with
    | .sl elem esz _ bg (some z)=>
     if (Nat.beq sz esz || ys.isEmpty)&&Nat.beq t u&&Nat.ble 1 esz&&Nat.ble 1 bg&&Nat.beq z.cells.length esz&&z.aP then
      match eS s.G elem esz bg x ys with
      | some (c,v,G')=>some (c,(s.bO G').put dst (.v v))
      | none=>none
     else none
    | _=>none
   | none=>none
  | _=>none
 | .append,[x,.str bs]=>match tys with
  | [t,u]=>match E.ti t,E.ti u with
   | some i,some j=>match i.k,j.k with
    | .sl elem esz _ bg (some z),.str=>
     if Nat.beq esz 1&&Nat.ble 1 bg&&Nat.beq z.cells.length esz&&z.aP then
      match eS s.G elem esz bg x (bs.map pR) with
      | some (c,v,G')=>some (c,(s.bO G').put dst (.v v))
      | none=>none
     else none
    | _,_=>none
   | _,_=>none
  | _=>none
 | .append,[x,.dT id f 0 sz len]=>match nth s.G id,tys with
  | some (.dE ys bq _),[t,u]=>match E.ti t with
   | some i=>match i.k with
    | .sl elem esz _ bg (some z)=>
     if Nat.beq sz bq&&Nat.beq sz esz&&Nat.beq f ys.length&&Nat.beq len ys.length&&aR ys&&Nat.beq t u&&Nat.ble 1 esz&&Nat.ble 1 bg&&Nat.beq z.cells.length esz&&z.aP then
      match eS s.G elem esz bg x ys with
      | some (c,v,G')=>some (c,(s.bO G').put dst (.v v))
      | none=>none
     else none
    | _=>none
   | none=>none
  | _,_=>none
 | .copy,[d,x]=>match tys with
  | t :: _=>match E.ti t with
   | some i=>match i.k with
    | .sl _ esz _ _ _=>match pS s esz d x with
     | some (n,G')=>some (true,(s.bO G').put dst (.v (.int .i64 n)))
     | none=>none
    | _=>none
   | none=>none
  | _=>none
 | .clear,[x]=>match dst,tys,x with
  | none,[t],.dT id f off sz len=>match E.ti t,nth s.G id with
   | some i,some (.dE es bq el)=>match i.k with
    | .sl elem esz _ _ (some z)=>if Nat.beq sz esz&&Nat.beq bq sz&&Nat.beq el elem&&Nat.beq z.cells.length esz&&z.aP&&z.closed then
      some (decide (f=es.length)&&decide (off+len≤es.length),s.bO (az s.G id (.dE (bR es off (List.replicate len z)) bq el))) else none
    | _=>none
   | _,_=>none
  | _,_,_=>none
 | .max,x :: l=>match Ey x l with
  | some v=>some (true,s.put dst (.v v))
  | none=>none
 | .min,x :: l=>match BF x l with
  | some v=>some (true,s.put dst (.v v))
  | none=>none
 | _,_=>none
def EK.plain:EK→Bool
 | .bool | .int | .str=>true
 | .st _=>true
 | _=>false
def EK.wide:EK→Bool
 | .st _=>true
 | _=>false
def tg:AV→Bool
 | .bool _=>true
 | .int _ _=>true
 | .str _=>true
 | _=>false
def pT:AV→AV→Bool
 | .bool a,.bool b=>a == b
 | .int k a,.int l b=>decide (k=l)&&a == b
 | .str a,.str b=>a == b
 | _,_=>false
def mS:List AV→List AV→Bool
 | [],[]=>true
 | a :: l,b :: r=>pT a b&&mS l r
 | _,_=>false
def lV:AV→AV→Bool
 | .agg xs,.agg ys=>mS xs ys
 | _,_=>false
def Bs (e:EK) (a b:AV):Option Bool:=match kz e a b with
 | some true=>bif e.wide&&!lV a b then none else some true
 | r=>r
def hU (e:EK) (k:AV):List (AV × AV)→Option (Option AV)
 | []=>some none
 | (k',v) :: l=>match Bs e k k' with
  | some true=>some (some v)
  | some false=>hU e k l
  | none=>none
def ru (e:EK) (k v:AV):List (AV × AV)→Option (List (AV × AV))
 | []=>some [(k,v)]
 | (k',v') :: l=>match Bs e k k' with
  | some true=>some ((k,v) :: l)
  | some false=>match ru e k v l with
   | some r=>some ((k',v') :: r)
   | none=>none
  | none=>none
def gT:EK→AV→Bool
 | .bool,.bool _=>true
 | .int,.int _ _=>true
 | .str,.str _=>true
 | .st fs,.agg cs=>cs.all tg&&(rr fs cs cs).isSome
 | _,_=>false
def mapOf (s:St):SV→Option (List (AV × AV))
 | .v .jt=>some []
 | .v (.map id)=>match nth s.G id with
  | some (.map es)=>some es
  | _=>none
 | _=>none
def kT (G:List GO) (id:Nat):List Nat:=match nth G id with
 | some (.aX fs _ _)=>fs
 | _=>[]
def zN (E:Env) (G:List GO) (t:TypeId) (z:AV):AV:=match E.SR t,z with
 | some (.aX e sz _),.list .nil _ []=>match iA G sz e 0 with
  | some id=>.list (.aX id (kT G id).length) sz []
  | none=>z
 | _,_=>z
def iD (E:Env) (s:St) (t:TypeId) (m k:SV):Option (AV × Bool):=match E.ti t,mapOf s m,k with
 | some i,some es,.v k=>match i.k with
  | .map kt _ (some z)=>match E.ti kt with
   | some j=>if j.ek.plain&&gT j.ek k then match hU j.ek k es with
     | some (some v)=>some (v,true)
     | some none=>some (z,false)
     | none=>none
    else none
   | none=>none
  | _=>none
 | _,_,_=>none
def kF (E:Env) (s:St) (t:TypeId) (m k:SV):Option (AV × Bool):=match iD E s t m k with
 | some (v,false)=>some (zN E s.G t v,false)
 | r=>r
def eT (E:Env) (s:St) (t:TypeId) (m k x:SV):Option St:=match E.ti t,m,k,x with
 | some i,.v (.map id),.v k,.v x=>match i.k,nth s.G id with
  | .map kt _ _,some (.map es)=>match E.ti kt with
   | some j=>if j.ek.plain&&gT j.ek k then match ru j.ek k x es with
     | some es'=>some (s.bO (az s.G id (.map es')))
     | none=>none
    else none
   | none=>none
  | _,_=>none
 | _,_,_,_=>none
def bZ (l:List UInt8) (pos:Nat):Nat × Nat:=
 bif Nat.blt (l.getD pos 0).toNat 128 then ((l.getD pos 0).toNat,1) else Utf8.decode ⟨⟨l⟩⟩ pos
def kG (s:St) (dst:Option Tmp) (x:SV):Option St:=match x with
 | .v (.ptr id 0)=>match nth s.G id with
  | some (.fZ l pos)=>bif Nat.blt pos l.length then
    match bZ l pos with
    | (c,n)=>some ((s.bO (az s.G id (.fZ l (pos+n)))).put dst (.v (.bh [.bool true,.int .i64 pos,.int .i32 c])))
   else some (s.put dst (.v (.bh [.bool false])))
  | _=>none
 | _=>none
def bL (es:List (AV × AV)) (i:Nat):AV × AV:=match nth es i with
 | some e=>e
 | none=>(fG,fG)
def Ma (E:Env) (kt:TypeId):Option ah:=match E.IX kt with
 | some p=>some p
 | none=>match E.ti kt with
  | some i=>match i.k with
   | .int k=>some (.int k)
   | .str=>some .str
   | _=>none
  | none=>none
def pU (E:Env) (t:TypeId) (e:AV × AV):Bool × AV × AV:=match E.ti t with
 | some i=>match i.k with
  | .map kt _ _=>match E.IX t,Ma E kt with
   | some pv,some pk=>(pk.fits e.1&&pv.fits e.2,pk.enc (pk.ba e.1),pv.enc (pv.ba e.2))
   | _,_=>(true,e.1,e.2)
  | _=>(true,e.1,e.2)
 | none=>(true,e.1,e.2)
def xg (E:Env) (s:St) (dst:Option Tmp) (x:SV):Option (Bool × St × List Nat × (Nat→Bool × St)):=match x with
 | .v (.ptr id 0)=>match nth s.G id with
  | some (.gR pg n left _ t)=>match nth s.G pg with
   | some (.map es)=>some (decide (es.length=n),s.put dst (.v (.bh [.bool false])),left,
     fun i=>((pU E t (bL es i)).1,(s.bO (az s.G id (.gR pg n (left.erase i) (some i) t))).put dst (.v (.bh [.bool true,(pU E t (bL es i)).2.1,(pU E t (bL es i)).2.2]))))
   | _=>none
  | _=>none
 | _=>none
def rv (E:Env) (s:St) (o:Oper):Option (Bool × St × List Nat × (Nat→Bool × St)):=match o.op with
 | .next x false=>xg E s o.dst (bi E s.ae x)
 | _=>none
def IZ:AV→Option Bool
 | .list .nil _ _=>some true
 | .list .full _ _=>some false
 | .list _ _ (_ :: _)=>some false
 | .iR _ _ _ _ _=>some false
 | .dT _ _ _ _ (_+1)=>some false
 | .lj=>some true
 | .ptr _ _=>some false
 | .ep _=>some false
 | _=>none
def BH:AV→Option Bool
 | .list .nil _ []=>some true
 | .lj=>some false
 | _=>none
def Mb (P:Program) (t:TypeId):Bool:=match P.underlying t with
 | some (.slice _)=>true
 | _=>false
def Mc (P:Program) (t:TypeId):Bool:=match P.underlying t with
 | some (.pointer _)=>true
 | _=>false
def SS:AV→Bool
 | .list _ _ _=>true
 | .iR _ _ _ _ _=>true
 | .dT _ _ _ _ _=>true
 | _=>false
def sa (P:Program) (t:TypeId) (a b:AV):Bool:=match BH b with
 | some true=>SS a&&Mb P t
 | some false=>!SS a&&Mc P t
 | none=>false
def Md (E:Env) (op:BinOp) (t:TypeId) (a b:AV):Option Bool:=match op,IZ a with
 | .eql,some r=>bif sa E.P t a b then some r else none
 | .neq,some r=>bif sa E.P t a b then some (!r) else none
 | _,_=>none
def TJ (E:Env) (op:BinOp) (t:TypeId) (a b:AV):Option Bool:=match op,E.ti t with
 | .eql,some i=>kz i.ek a b
 | .neq,some i=>match kz i.ek a b with
  | some r=>some (!r)
  | none=>none
 | _,_=>none
def ju (E:Env) (s:St) (t:TypeId) (len:Nat) (parts:List (Nat × Operand)):Option (List AV):=
 match E.ti t,IC E s.ae parts with
 | some i,some ps=>match i.k with
  | .sl _ esz _ _ (some z)=>
    if Nat.beq z.cells.length esz&&Nat.ble 1 esz&&Nat.ble (len * esz) 16777216&&z.aP then
     r9 (fun i=>some (i * esz,esz)) (au (List.replicate len z)) (xe ps)
    else none
  | _=>none
 | _,_=>none
def iE (E:Env) (f:FuncId) (s:St) (o:Oper):Option St:=match o.op with
 | .buildSlice t len parts=>match o.dst with
  | some d=>if E.wG f d then match E.ti t with
    | some i=>match i.k,bQ E s t len parts.toList with
     | .sl elem _ _ _ _,some (.list _ esz es)=>some ((s.dH (.row (au es) elem)).put (some d) (.v (.iR s.G.length 0 esz len len)))
     | .sl elem esz _ _ _,none=>match ju E s t len parts.toList with
      | some cs=>some ((s.dH (.row cs elem)).put (some d) (.v (.iR s.G.length 0 esz len len)))
      | none=>none
     | _,_=>none
    | none=>none
   else if E.wG f (d+196608) then match E.ti t with
    | some i=>match i.k,bQ E s t len parts.toList with
     | .sl elem _ _ _ _,some (.list _ esz es)=>if Nat.ble len 65536 then some ((s.dH (.dE es esz elem)).put (some d) (.v (.dT s.G.length len 0 esz len))) else none
     | _,_=>none
    | none=>none
   else if E.wG f (d+65536) then match E.ti t with
    | some i=>match i.k,bQ E s t len parts.toList with
     | .sl elem _ _ _ _,some (.list _ esz es)=>if Nat.ble len 65536 then some ((s.dH (.tok len esz elem)).put (some d) (.v (.list (.own s.G.length) esz es))) else none
     | _,_=>none
    | none=>none
   else none
  | none=>none
 | _=>none
def xh (wk:Bool) (es:List AV):List AV:=match wk with
 | true=>es.map AV.gj
 | false=>es
def lm (wk:Bool):List AV→List GO→Bool × List AV × List GO
 | [],G=>(true,[],G)
 | .dT id f 0 sz len :: l,G=>match nth G id with
  | some (.dE es bq _)=>match lm wk l (az G id .dead) with
   | (c,r,G')=>(decide (f=es.length)&&decide (len=es.length)&&Nat.beq sz bq&&aR (xh wk es)&&c,.list .iU sz (xh wk es) :: r,G')
  | _=>match lm wk l G with
   | (_,r,G')=>(false,r,G')
 | a :: l,G=>match lm wk l G with
  | (c,r,G')=>(c,a :: r,G')
def lW (cut wk:Bool) (s:St) (t:Tmp):Option (Bool × St):=match lk s.ae t with
 | .v (.dT id f off sz len)=>match nth s.G id with
  | some (.dE es bq _)=>if Nat.beq off 0&&Nat.beq sz bq then
    some (decide (f=es.length)&&(bif cut then decide (len≤es.length) else decide (len=es.length))&&aR (xh wk es),⟨.put t (.v (.list .iU sz (xh wk (bif cut then es.take len else es)))) :: s.ae,s.boxes,az s.G id .dead,s.marks,s.ro,s.n⟩) else none
  | _=>none
 | .v (.ptr id 0)=>match nth s.G id with
  | some (.row cs _)=>some (aR cs,⟨.put t (.v (.ep cs)) :: s.ae,s.boxes,az s.G id .dead,s.marks,s.ro,s.n⟩)
  | _=>none
 | .v (.agg cs)=>match lm wk cs s.G with
  | (c,eQ,G')=>some (c,⟨.put t (.v (.agg eQ)) :: s.ae,s.boxes,G',s.marks,s.ro,s.n⟩)
 | _=>none
def gv (cut wk:Bool):List Operand→St→Bool × St
 | [],s=>(true,s)
 | .tmp t :: l,s=>match lW cut wk s t with
  | some (c,s')=>match gv cut wk l s' with
   | (c',s2)=>(c&&c',s2)
  | none=>gv cut wk l s
 | _ :: l,s=>gv cut wk l s
def Ez (E:Env) (f:FuncId) (s:St) (o:Oper):Option (Bool × St):=match o.dst with
 | some d=>if E.wG f (d+262144) then some (gv (E.wG f (d+393216)) (E.wG f (d+458752)) o.op.operands.toList s) else none
 | none=>none
def ln (E:Env) (s:St) (a b:TypeId) (x:SV):Option (Bool × AV):=
 match E.ti a,E.ti b,x with
 | some i,some j,.v x=>match j.k,x with
  | .int k,.int _ n=>some (true,.int k (k.wrap n))
  | .str,.list _ sz es=>match i.k with
   | .sl elem 1 _ _ _=>match E.ti elem with
    | some e=>match e.k with
     | .int .u8=>some ((Nat.beq sz 1 || es.isEmpty)&&allFit (ah.fits (.int .u8)) es,.str (pi es))
     | .int .i32=>some ((Nat.beq sz 1 || es.isEmpty)&&allFit (ah.fits (.int .i32)) es,.str (tL es))
     | _=>none
    | none=>none
   | _=>none
  | .str,.iR id off 1 len _=>match i.k,nth s.G id with
   | .sl elem 1 _ _ _,some (.row cs _)=>match E.ti elem with
    | some e=>match e.k with
     | .int .u8=>some (Nat.ble (off+len) cs.length&&allFit (ah.fits (.int .u8)) (hZ off (off+len) cs),.str (pi (hZ off (off+len) cs)))
     | _=>none
    | none=>none
   | _,_=>none
  | _,_=>none
 | _,_,_=>none
def EA (id sz:Nat):List AV→List Nat→Option (List AV × List Nat)
 | [],fs=>some ([],fs)
 | .list .nil _ [] :: l,fs=>match EA id sz l (fs++[0]) with
  | some (r,ym)=>some (.list (.aX id fs.length) sz [] :: r,ym)
  | none=>none
 | .list .full bq es :: l,fs=>if Nat.beq sz bq then match EA id sz l (fs++[es.length]) with
   | some (r,ym)=>some (.list (.aX id fs.length) sz es :: r,ym)
   | none=>none
  else none
 | _ :: _,_=>none
def wE (e:EK) (k k':AV):Bool:=match Bs e k k' with
 | some b=>b
 | none=>false
def cq (e:EK) (k:AV):List (AV × AV)→Bool
 | []=>true
 | (k',_) :: l=>(Bs e k k').isSome&&cq e k l
def eg (e:EK) (k:AV):List (AV × AV)→Option AV
 | []=>none
 | (k',v) :: l=>bif wE e k k' then some v else eg e k l
def cr (e:EK) (k v:AV):List (AV × AV)→List (AV × AV)
 | []=>[(k,v)]
 | (k',v') :: l=>bif wE e k k' then (k,v) :: l else (k',v') :: cr e k v l
def aK (e:EK) (k z:AV) (es:List (AV × AV)):AV:=(eg e k es).getD z
def kU (e:EK) (k:AV):List (AV × AV)→Nat
 | []=>0
 | (k',_) :: l=>bif wE e k k' then 0 else kU e k l+1
def mT:List (AV × AV)→Nat→AV→List (AV × AV)
 | [],_,_=>[]
 | (k,_) :: l,0,x=>(k,x) :: l
 | e :: l,n+1,x=>e :: mT l n x
def rA (E:Env) (s:St) (x:SV):Option (Bool × AV):=match x with
 | .v (.ptr id 0)=>match nth s.G id with
  | some (.gR pg n _ (some i) t)=>match nth s.G pg with
   | some (.map es)=>some (decide (es.length=n)&&decide (i < n)&&(pU E t (bL es i)).1,.bh [(pU E t (bL es i)).2.1,(pU E t (bL es i)).2.2])
   | _=>none
  | _=>none
 | _=>none
def fV (E:Env) (s:St) (t:TypeId) (m k:SV):Option (Bool × AV × St):=match E.ti t,m,k with
 | some i,.v (.map id),.v k=>match i.k,nth s.G id with
  | .map kt _ (some z),some (.map es)=>match E.ti kt with
   | some j=>if j.ek.plain&&gT j.ek k then
     some (cq j.ek k es,.bh [aK j.ek k z es,.int .i64 (kU j.ek k es:Nat)],s.bO (az s.G id (.map (cr j.ek k (aK j.ek k z es) es)))) else none
   | none=>none
  | _,_=>none
 | _,_,_=>none
def dV (s:St) (m st x:SV):Option (Bool × St):=match m,st,x with
 | .v (.map id),.v (.int .i64 n),.v v=>match nth s.G id with
  | some (.map es)=>some (decide (0≤n)&&decide (n.toNat < es.length),s.bO (az s.G id (.map (mT es n.toNat v))))
  | _=>none
 | _,_,_=>none
def gk (E:Env) (f:FuncId) (s:St) (o:Oper):Option (Bool × St):=match o.dst with
 | some d=>if E.wG f (d+524288) then match o.op with
   | .call { callee:=.builtin .append,args,argTypes }=>match kS E s.ae args.toList,argTypes.toList with
    | some [.dT id g off sz len,.list k Wf (y :: ys)],[t,u]=>match E.ti t with
     | some i=>match i.k with
      | .sl elem esz _ bg (some z)=>match E.ti elem with
       | some j=>match j.k with
        | .sl e2 KV _ _ _=>match iA s.G KV e2 0 with
         | some ky=>match EA ky KV (y :: ys) (kT s.G ky),nth s.G id with
          | some (EB,ym),some (.dE es bq e')=>
           if Nat.beq Wf esz&&Nat.beq bq esz&&Nat.beq e' elem&&Nat.beq sz esz&&Nat.beq t u&&Nat.ble 1 esz&&Nat.ble 1 bg&&Nat.beq z.cells.length esz&&z.aP then
            some (decide (g=es.length)&&decide (off=0)&&decide (len=g)&&decide ((es.length+(y :: ys).length) * bg≤140737488355328),
             (s.bO (az (az s.G ky (.aX ym KV e2)) id (.dE (es++EB) esz elem))).put o.dst (.v (.dT id (es.length+(y :: ys).length) 0 esz (es.length+(y :: ys).length))))
           else none
          | _,_=>none
         | none=>none
        | _=>none
       | none=>none
      | _=>none
     | none=>none
    | _,_=>none
   | _=>none
  else none
 | none=>none
def sb (E:Env) (f:FuncId) (s:St) (o:Oper):Option (Bool × St):=match o.dst with
 | some d=>if E.wG f (d+524288) then match o.op with
   | .lookup t m k ok=>match E.SR t,E.ti t,bi E s.ae m,bi E s.ae k with
    | some (.aX e sz p),some i,.v (.map id),.v k=>match i.k,nth s.G id with
     | .map kt _ (some (.list .nil _ [])),some (.map es)=>match E.ti kt,iA s.G sz e 0 with
      | some j,some ky=>if j.ek.plain&&gT j.ek k then
        some (cq j.ek k es&&(ah.aX ky sz p).fits (aK j.ek k (.list (.aX ky (kT s.G ky).length) sz []) es),
         (s.bO (az s.G ky (.aX (kT s.G ky++[0]) sz e))).put o.dst (.v (if ok then .bh [(ah.aX ky sz p).enc ((ah.aX ky sz p).ba (aK j.ek k (.list (.aX ky (kT s.G ky).length) sz []) es)),.bool (eg j.ek k es).isSome]
          else (ah.aX ky sz p).enc ((ah.aX ky sz p).ba (aK j.ek k (.list (.aX ky (kT s.G ky).length) sz []) es)))))
       else none
      | _,_=>none
     | _,_=>none
    | _,_,_,_=>none
   | _=>none
  else none
 | none=>none
def TL (E:Env) (f:FuncId) (d:Option Tmp):Bool:=match d with
 | some d=>E.wG f (d+196608)
 | none=>false
def an (E:Env) (f:FuncId) (s:St) (o:Oper):Option (Bool × St):=
 match o.op with
 | .move x=>match bi E s.ae x with
  | .v a=>some (true,s.put o.dst (.v a))
  | .lp k off=>some (true,s.put o.dst (.lp k off))
  | .none=>some (true,s.put o.dst .none)
 | .assign x=>match bi E s.ae x with
  | .v a=>some (true,s.put o.dst (.v a))
  | .lp k off=>some (true,s.put o.dst (.lp k off))
  | .none=>some (true,s.put o.dst .none)
 | .pick c a b=>match bi E s.ae c,bi E s.ae a,bi E s.ae b with
  | .v (.bool t),.v x,.v y=>some (true,s.put o.dst (.v (yj t x y)))
  | _,_,_=>none
 | .alloc e=>match E.ti e with
  | some i=>match i.zero with
   | some z=>if z.aP then eR E f s o.dst e z.cells else none
   | none=>none
  | none=>none
 | .box t x=>match bi E s.ae x with
  | .v v=>if v.aP then eR E f s o.dst t v.cells else none
  | _=>none
 | .build t parts=>match lT E s t parts.toList with
  | some v=>some (true,s.put o.dst (.v v))
  | none=>none
 | .buildSlice t len parts=>match bQ E s t len parts.toList with
  | some v=>some (true,s.put o.dst (.v v))
  | none=>none
 | .load t a=>match xf E s t (bi E s.ae a) with
  | some (c,v)=>some (c,s.put o.dst (.v v))
  | none=>none
 | .store t a x=>match o.dst,iX E s t (bi E s.ae a) (bi E s.ae x) with
  | none,some (c,s')=>some (c,s')
  | _,_=>none
 | .binOp op t x y _=>match bi E s.ae x,bi E s.ae y with
  | .v a,.v b=>match zL op a b with
   | some (c,v)=>some (c,s.put o.dst (.v v))
   | none=>match TJ E op t a b with
    | some r=>some (true,s.put o.dst (.v (.bool r)))
    | none=>match Md E op t a b with
     | some r=>some (true,s.put o.dst (.v (.bool r)))
     | none=>none
  | _,_=>none
 | .unOp op _ x=>match op,bi E s.ae x with
  | .not,.v (.bool b)=>some (true,s.put o.dst (.v (.bool (!b))))
  | .neg,.v (.int k n)=>some (true,s.put o.dst (.v (.int k (k.wrap (0 - n)))))
  | _,_=>none
 | .convert a b x=>match ln E s a b (bi E s.ae x) with
  | some (c,v)=>some (c,s.put o.dst (.v v))
  | none=>none
 | .nilCheck x=>match bi E s.ae x with
  | .v (.ptr id off)=>some (true,s.put o.dst (.v (.ptr id off)))
  | .lp k off=>some (true,s.put o.dst (.lp k off))
  | _=>none
 | .makeFunc (.func g) first captured=>match kS E s.ae first.toList,kS E s.ae captured.toList with
  | some x,some y=>some (true,s.put o.dst (.v (.fn g x y)))
  | _,_=>none
 | .fieldAddr t x j=>match jS E t (bi E s.ae x) j with
  | some p=>some (true,s.put o.dst p)
  | none=>none
 | .field t x j=>match BB E t (bi E s.ae x) j with
  | some v=>some (true,s.put o.dst (.v v))
  | none=>none
 | .indexAddr t x ix=>match jR E t (bi E s.ae x) (bi E s.ae ix) with
  | some (c,p)=>some (c,s.put o.dst p)
  | none=>none
 | .index t x ix=>match BC E t (bi E s.ae x) (bi E s.ae ix) with
  | some (c,v)=>some (c,s.put o.dst (.v v))
  | none=>none
 | .slice t x lo hi mx=>match lU E s.ae lo,lU E s.ae hi with
  | some l,some h=>match yl E t (bi E s.ae x) l h mx with
   | some (c,v)=>some (c,s.put o.dst (.v v))
   | none=>none
  | _,_=>none
 | .extract x i=>match bi E s.ae x with
  | .v (.bh vs)=>match nth vs i with
   | some v=>some (true,s.put o.dst (.v v))
   | none=>none
  | _=>none
 | .makeSlice t l c=>match E.ti t,bi E s.ae l,bi E s.ae c with
  | some i,.v (.int _ n),.v (.int _ m)=>match i.k with
   | .sl elem esz _ bg (some z)=>
    if Nat.beq z.cells.length esz&&Nat.ble 1 esz&&z.aP then
     if TL E f o.dst then (if z.closed then some (decide (0≤n∧n≤m∧m≤140737488355328∧m * bg≤140737488355328),
      (s.dH (.dE (List.replicate n.toNat z) esz elem)).put o.dst (.v (.dT s.G.length n.toNat 0 esz n.toNat))) else none)
     else some (decide (0≤n∧n≤m∧m≤140737488355328∧m * bg≤140737488355328),
      (s.dH (.row (au (List.replicate m.toNat z)) elem)).put o.dst (.v (.iR s.G.length 0 esz n.toNat m.toNat)))
    else none
   | _=>none
  | _,_,_=>none
 | .lookup t m k ok=>match kF E s t (bi E s.ae m) (bi E s.ae k) with
  | some (v,b)=>some (true,s.put o.dst (.v (if ok then .bh [v,.bool b] else v)))
  | none=>none
 | .mapUpdate t m k x=>match o.dst,eT E s t (bi E s.ae m) (bi E s.ae k) (bi E s.ae x) with
  | none,some s'=>some (true,s')
  | _,_=>none
 | .insert t m k x=>match o.dst,eT E s t (bi E s.ae m) (bi E s.ae k) (bi E s.ae x) with
  | none,some s'=>some (true,s')
  | _,_=>none
 | .entry x=>match rA E s (bi E s.ae x) with
  | some (c,v)=>some (c,s.put o.dst (.v v))
  | none=>none
 | .mapEntry t m k=>match fV E s t (bi E s.ae m) (bi E s.ae k) with
  | some (c,v,s')=>some (c,s'.put o.dst (.v v))
  | none=>none
 | .entryStore _ m st x=>match o.dst,dV s (bi E s.ae m) (bi E s.ae st) (bi E s.ae x) with
  | none,some (c,s')=>some (c,s')
  | _,_=>none
 | .range t x=>match E.ti t,bi E s.ae x with
  | some i,.v (.str l)=>match i.k with
   | .str=>some (true,(s.dH (.fZ l 0)).put o.dst (.v (.ptr s.G.length 0)))
   | _=>none
  | some i,.v (.map id)=>match i.k,nth s.G id with
   | .map _ _ _,some (.map es)=>some (true,(s.dH (.gR id es.length (List.range es.length) none t)).put o.dst (.v (.ptr s.G.length 0)))
   | _,_=>none
  | _,_=>none
 | .next x true=>match kG s o.dst (bi E s.ae x) with
  | some s'=>some (true,s')
  | none=>none
 | .makeMap _ none=>some (true,(s.dH (.map [])).put o.dst (.v (.map s.G.length)))
 | .call { callee:=.builtin b,args,argTypes }=>match gk E f s o with
  | some r=>some r
  | none=>match kS E s.ae args.toList with
   | some l=>bG E s o.dst b l argTypes.toList
   | none=>none
 | _=>none
end Go.Am
namespace Go.Am
open Go
inductive TR where
 | bn
 | full (f:Nat)
 | tok (f b c:Nat)
inductive RO where
 | none
 | bn
 | bB (b:Nat)
 | tok (f b c:Nat)
 | aX (ts:List TR)
def RO.has:RO→Nat→Prop
 | .none,_=>False
 | .bn,_=>False
 | .bB b,x=>x=b
 | .tok _ b _,x=>x=b
 | .aX ts,x=>∃ j f c,nth ts j=some (.tok f x c)
def gU (sz:Nat) (es:List AV):Prop:=∀ e∈es,e.cells.length=sz∧e.aP=true∧e.closed=true
def dC (sz:Nat) (es:List AV):Prop:=∀ e∈es,e.cells.length=sz∧e.aP=true
theorem gU.g {sz:Nat} {es:List AV} (h:gU sz es):dC sz es:=fun e he=>⟨(h e he).1,(h e he).2.1⟩
structure ak where
 I:Nat→Nat→Prop
 obj:List RO
def KW (b o len cap:Nat):RO→Prop
 | .none=>True
 | .bn=>False
 | .bB _=>False
 | .tok f b' c'=>len≤f∧(len=f→b=b'∧o=0∧cap=c')
 | .aX _=>False
def I0 (b o len cap:Nat):TR→Prop
 | .bn=>False
 | .full f=>len≤f∧(len=f→cap=len)
 | .tok f b' c'=>len≤f∧(len=f→b=b'∧o=0∧cap=c')
def Qx (b o len cap j:Nat):RO→Prop
 | .none=>True
 | .bn=>False
 | .bB _=>False
 | .tok _ _ _=>False
 | .aX ts=>∃ t,nth ts j=some t∧I0 b o len cap t
def rB:RO→Prop
 | .none=>True
 | .bn=>False
 | .bB _=>False
 | .tok _ _ _=>False
 | .aX _=>True
def lX:RO→Prop
 | .none=>True
 | .bn=>True
 | .bB _=>False
 | .tok f _ _=>1≤f
 | .aX _=>False
def EC (b o f off sz cap:Nat):RO→Prop
 | .none=>True
 | .bn=>False
 | .bB _=>False
 | .tok f' b' c'=>f≤f'∧(f=f'→b=b'∧off+cap=c'∧(o=off * sz∨cap=0))
 | .aX _=>False
def F2 (b o f i off sz:Nat):RO→Prop
 | .none=>True
 | .bn=>False
 | .bB _=>False
 | .tok f' b' _=>f≤f'∧(f=f'→b=b'∧o=i * sz+off)
 | .aX _=>False
def yn (R:ak) (k:LK) (b o len cap:Nat):Prop:=match k with
 | .nil=>False
 | .full=>cap=len
 | .iU=>True
 | .own id=>∃ ro,nth R.obj id=some ro∧KW b o len cap ro
 | .aX id j=>∃ ro,nth R.obj id=some ro∧Qx b o len cap j ro
mutual
inductive Rel (R:ak) (w:World):AV→Value→Prop
 | bool (b:Bool):Rel R w (.bool b) (.bool b)
 | int (k:IntKind) (n:Int):Rel R w (.int k n) (.int k n)
 | str (l:List UInt8):Rel R w (.str l) (.string ⟨⟨l⟩⟩)
 | agg {cs:List AV} {vs:List Value} (h:aI R w cs vs) (h1:∀ v∈vs,v.oneCell'=true):Rel R w (.agg cs) (.agg ⟨vs⟩)
 | bh {cs:List AV} {vs:List Value} (h:aI R w cs vs):Rel R w (.bh cs) (.tuple ⟨vs⟩)
 | lj:Rel R w .lj (.pointer none)
 | ptr {id off b:Nat} (h:nth R.obj id=some (.bB b)):Rel R w (.ptr id off) (.pointer (some ⟨b,off,none⟩))
 | ep {cs:List AV} {b o:Nat} (h:ew R w b o cs):Rel R w (.ep cs) (.pointer (some ⟨b,o,none⟩))
 | iF {sz:Nat}:Rel R w (.list .nil sz []) (.slice none 0 0)
 | ia {sz:Nat}:Rel R w (.list .iU sz []) (.slice none 0 0)
 | lY {sz:Nat} {a:Addr}:Rel R w (.list .iU sz []) (.slice (some a) 0 0)
 | lZ {id sz:Nat} {ro:RO} (h:nth R.obj id=some ro) (ho:lX ro):Rel R w (.list (.own id) sz []) (.slice none 0 0)
 | kV {id j sz:Nat} {ro:RO} (h:nth R.obj id=some ro) (ho:rB ro):Rel R w (.list (.aX id j) sz []) (.slice none 0 0)
 | list {k:LK} {sz:Nat} {es:List AV} {b o len cap:Nat} (h:gl R w b o sz es) (hl:len=es.length) (hc:len≤cap) (hk:yn R k b o len cap):Rel R w (.list k sz es) (.slice (some ⟨b,o,none⟩) len cap)
 | iR {id off sz len cap b:Nat} (h:nth R.obj id=some (.bB b)) (hc:len≤cap):Rel R w (.iR id off sz len cap) (.slice (some ⟨b,off,none⟩) len cap)
 | iY {id sz:Nat} {ro:RO} (h:nth R.obj id=some ro) (ho:lX ro):Rel R w (.dT id 0 0 sz 0) (.slice none 0 0)
 | dT {id f off sz len cap b o:Nat} {ro:RO} (h:nth R.obj id=some ro) (ho:EC b o f off sz cap ro) (hc:len≤cap):Rel R w (.dT id f off sz len) (.slice (some ⟨b,o,none⟩) len cap)
 | gp {id f i off sz b o:Nat} {t:TypeId} {ro:RO} (h:nth R.obj id=some ro) (ho:F2 b o f i off sz ro):Rel R w (.gp id f i off sz t) (.pointer (some ⟨b,o,none⟩))
 | jt:Rel R w .jt (.map none)
 | map {id b:Nat} (h:nth R.obj id=some (.bB b)):Rel R w (.map id) (.map (some b))
 | dD:Rel R w .dD .nilFunc
 | fn {f:FuncId} {xs ys:List AV} {vs us:List Value} (h:aI R w xs vs) (h':aI R w ys us):Rel R w (.fn f xs ys) (.func (.func f) ⟨vs⟩ ⟨us⟩)
 | yield {id b:Nat} (h:nth R.obj id=some (.bB b)):Rel R w (.yield id) (.func (.yield b) #[] #[])
 | oB:Rel R w .oB .nilIface
 | iface {t:TypeId} {v:AV} {c:Value} (h:Rel R w v c):Rel R w (.iface t v) (.iface t c)
inductive aI (R:ak) (w:World):List AV→List Value→Prop
 | nil:aI R w [] []
 | cons {a:AV} {c:Value} {l:List AV} {cs:List Value} (h:Rel R w a c) (t:aI R w l cs):aI R w (a :: l) (c :: cs)
inductive gl (R:ak) (w:World):Nat→Nat→Nat→List AV→Prop
 | nil {b o sz:Nat}:gl R w b o sz []
 | cons {b o sz:Nat} {e:AV} {es:List AV} (hl:e.cells.length=sz) (ht:e.aP=true) (hk:e.closed=true) (h:ew R w b o e.cells) (t:gl R w b (o+sz) sz es):gl R w b o sz (e :: es)
inductive ew (R:ak) (w:World):Nat→Nat→List AV→Prop
 | nil {b o:Nat}:ew R w b o []
 | cons {b o:Nat} {a:AV} {c:Value} {l:List AV} (hc:w.cell? ⟨b,o,none⟩=some c) (h1:c.oneCell'=true) (hi:R.I b o) (h:Rel R w a c) (t:ew R w b (o+1) l):ew R w b o (a :: l)
end
def kW:TR→TR→Prop
 | .bn,.bn=>True
 | .bn,.full _=>False
 | .bn,.tok f _ _=>1≤f
 | .full _,.bn=>False
 | .full f,.full f'=>f'=f
 | .full f,.tok f' _ _=>f < f'
 | .tok _ _ _,.bn=>False
 | .tok _ _ _,.full _=>False
 | .tok f b c,.tok f' b' c'=>f≤f'∧(f'=f→b'=b∧c'=c)
theorem kW.refl (t:TR):kW t t:=by cases t <;> simp [kW]
theorem kW.trans {a b c:TR} (h:kW a b) (k:kW b c):kW a c:=by
 cases a <;> cases b <;> cases c <;> simp only [kW] at * <;> omega
def rC (ts PK:List TR):Prop:=∀ j t,nth ts j=some t→∃ t',nth PK j=some t'∧kW t t'
theorem rC.refl (ts:List TR):rC ts ts:=fun _ t h=>⟨t,h,kW.refl t⟩
theorem rC.trans {a b c:List TR} (h:rC a b) (k:rC b c):rC a c:=fun j t hj=>
 let ⟨_,h1,h2⟩:=h j t hj
 let ⟨t2,k1,k2⟩:=k j _ h1
 ⟨t2,k1,h2.trans k2⟩
def cp:RO→RO→Prop
 | .none,r=>r=.none
 | .bB b,r=>r=.bB b
 | .bn,.none=>True
 | .bn,.bn=>True
 | .bn,.bB _=>False
 | .bn,.tok f _ _=>1≤f
 | .tok _ _ _,.none=>True
 | .tok _ _ _,.bn=>False
 | .tok _ _ _,.bB _=>False
 | .tok f b c,.tok f' b' c'=>f≤f'∧(f'=f→b'=b∧c'=c)
 | .bn,.aX _=>False
 | .tok _ _ _,.aX _=>False
 | .aX _,.none=>True
 | .aX _,.bn=>False
 | .aX _,.bB _=>False
 | .aX _,.tok _ _ _=>False
 | .aX ts,.aX PK=>rC ts PK
theorem cp.refl (r:RO):cp r r:=by cases r <;> simp [cp,rC.refl]
theorem cp.trans {a b c:RO} (h:cp a b) (k:cp b c):cp a c:=by
 cases a with
 | none=>simp only [cp] at h; subst h; exact k
 | bB x=>simp only [cp] at h; subst h; exact k
 | bn=>
  cases b with
  | none=>simp only [cp] at k; subst k; trivial
  | bn=>exact k
  | bB z=>exact h.elim
  | tok f' x' y'=>
   cases c with
   | none=>trivial
   | bn=>exact k.elim
   | bB z=>exact k.elim
   | aX _=>exact k.elim
   | tok f'' x'' y''=>simp only [cp] at *; omega
  | aX _=>exact h.elim
 | tok f x y=>
  cases b with
  | none=>simp only [cp] at k; subst k; trivial
  | bn=>exact h.elim
  | bB z=>exact h.elim
  | tok f' x' y'=>
   cases c with
   | none=>trivial
   | bn=>exact k.elim
   | bB z=>exact k.elim
   | tok f'' x'' y''=>
    simp only [cp] at *
    refine ⟨Nat.le_trans h.1 k.1,fun e=>?_⟩
    obtain ⟨h1,h2⟩:=h; obtain ⟨k1,k2⟩:=k
    have e1:f'=f:=by omega
    have e2:f''=f':=by omega
    exact ⟨(k2 e2).1.trans (h2 e1).1,(k2 e2).2.trans (h2 e1).2⟩
   | aX _=>exact k.elim
  | aX _=>exact h.elim
 | aX ts=>
  cases b with
  | none=>simp only [cp] at k; subst k; trivial
  | bn=>exact h.elim
  | bB z=>exact h.elim
  | tok f' x' y'=>exact h.elim
  | aX PK=>
   cases c with
   | none=>trivial
   | bn=>exact k.elim
   | bB z=>exact k.elim
   | tok f' x' y'=>exact k.elim
   | aX ts''=>exact rC.trans h k
def mU (r r':Loop):Prop:=r'.tmps=r.tmps∧r'.params=r.params∧r'.assign=r.assign∧r'.body=r.body∧r'.defers=r.defers
def gb (w w':World):Prop:=∀ (b:Nat) (r:Loop),w.heap[b]?=some (Obj.loop r)→∃ r',w'.heap[b]?=some (Obj.loop r')∧mU r r'
theorem gb.refl (w:World):gb w w:=fun _ r h=>⟨r,h,rfl,rfl,rfl,rfl,rfl⟩
theorem gb.trans {w w1 w2:World} (h:gb w w1) (k:gb w1 w2):gb w w2:=fun b r hb=>
 let ⟨_,h1,h2,h3,h4,h5,h6⟩:=h b r hb
 let ⟨r2,k1,k2,k3,k4,k5,k6⟩:=k b _ h1
 ⟨r2,k1,k2.trans h2,k3.trans h3,k4.trans h4,k5.trans h5,k6.trans h6⟩
theorem gb.old {w w':World} (h:∀ b,b < w.heap.size→w'.heap[b]?=w.heap[b]?):gb w w':=fun b r hb=>
 ⟨r,(h b (by
  rcases Nat.lt_or_ge b w.heap.size with bT | zB
  ·exact bT
  ·rw [Array.getElem?_eq_none zB] at hb; cases hb)).trans hb,rfl,rfl,rfl,rfl,rfl⟩
structure Ext (R:ak) (w:World) (R':ak) (w':World):Prop where
 I:∀ b o,R.I b o→R'.I b o
 cell:∀ b o,R.I b o→w'.cell? ⟨b,o,none⟩=w.cell? ⟨b,o,none⟩
 obj:∀ id ro,nth R.obj id=some ro→∃ lh,nth R'.obj id=some lh∧cp ro lh
 lp:gb w w'
theorem Ext.refl (R:ak) (w:World):Ext R w R w:=⟨fun _ _ h=>h,fun _ _ _=>rfl,fun _ ro h=>⟨ro,h,cp.refl ro⟩,gb.refl w⟩
theorem Ext.trans {R R' F3:ak} {w w' I1:World} (h:Ext R w R' w') (k:Ext R' w' F3 I1):Ext R w F3 I1:=
 ⟨fun b o hi=>k.I b o (h.I b o hi),fun b o hi=>(k.cell b o (h.I b o hi)).trans (h.cell b o hi),fun id ro hr=>
  let ⟨_,h1,h2⟩:=h.obj id ro hr
  let ⟨r2,h3,h4⟩:=k.obj id _ h1
  ⟨r2,h3,h2.trans h4⟩,h.lp.trans k.lp⟩
theorem Ext.bB {R R':ak} {w w':World} (h:Ext R w R' w') {id b:Nat} (hb:nth R.obj id=some (.bB b)):nth R'.obj id=some (.bB b):=by
 obtain ⟨r,h1,h2⟩:=h.obj id _ hb
 simp only [cp] at h2
 subst h2
 exact h1
theorem yn.mono {R R':ak} {w w':World} (e:Ext R w R' w') {k:LK} {b o len cap:Nat} (h:yn R k b o len cap):yn R' k b o len cap:=by
 cases k with
 | nil=>exact h
 | full=>exact h
 | iU=>trivial
 | own id=>
  obtain ⟨ro,h1,h2⟩:=h
  obtain ⟨lh,h3,h4⟩:=e.obj id ro h1
  refine ⟨lh,h3,?_⟩
  cases ro with
  | none=>simp only [cp] at h4; subst h4; trivial
  | bn=>exact h2.elim
  | bB x=>exact h2.elim
  | tok f x y=>
   cases lh with
   | none=>trivial
   | bn=>exact h4.elim
   | bB z=>exact h4.elim
   | tok f' x' y'=>
    simp only [cp,KW] at *
    refine ⟨by omega,fun e=>?_⟩
    have e1:f'=f:=by omega
    have h5:=h2.2 (by omega)
    have h6:=h4.2 e1
    exact ⟨h5.1.trans h6.1.symm,h5.2.1,h5.2.2.trans h6.2.symm⟩
   | aX _=>exact h4.elim
  | aX _=>exact h2.elim
 | aX id j=>
  obtain ⟨ro,h1,h2⟩:=h
  obtain ⟨lh,h3,h4⟩:=e.obj id ro h1
  refine ⟨lh,h3,?_⟩
  cases ro with
  | none=>simp only [cp] at h4; subst h4; trivial
  | bn=>exact h2.elim
  | bB x=>exact h2.elim
  | tok _ _ _=>exact h2.elim
  | aX ts=>
   cases lh with
   | none=>trivial
   | bn=>exact h4.elim
   | bB z=>exact h4.elim
   | tok _ _ _=>exact h4.elim
   | aX PK=>
    obtain ⟨t,k1,k2⟩:=h2
    obtain ⟨t',k3,k4⟩:=h4 j t k1
    refine ⟨t',k3,?_⟩
    cases t with
    | bn=>exact k2.elim
    | full f=>
     cases t' with
     | bn=>exact k4.elim
     | full f'=>simp only [kW,I0] at *; subst k4; exact k2
     | tok f' x' y'=>simp only [kW,I0] at *; exact ⟨by omega,fun e=>by omega⟩
    | tok f x y=>
     cases t' with
     | bn=>exact k4.elim
     | full f'=>exact k4.elim
     | tok f' x' y'=>
      simp only [kW,I0] at *
      refine ⟨by omega,fun e=>?_⟩
      have e1:f'=f:=by omega
      have h5:=k2.2 (by omega)
      have h6:=k4.2 e1
      exact ⟨h5.1.trans h6.1.symm,h5.2.1,h5.2.2.trans h6.2.symm⟩
theorem lX.mono {ro lh:RO} (h:lX ro) (e:cp ro lh):lX lh:=by
 cases ro with
 | none=>simp only [cp] at e; subst e; trivial
 | bn=>cases lh <;> first | trivial | exact e.elim | exact e
 | bB _=>exact h.elim
 | tok f x y=>
  cases lh with
  | none=>trivial
  | bn=>exact e.elim
  | bB z=>exact e.elim
  | tok f' x' y'=>simp only [cp,lX] at *; omega
  | aX _=>exact e.elim
 | aX _=>exact h.elim
theorem rB.mono {ro lh:RO} (h:rB ro) (e:cp ro lh):rB lh:=by
 cases ro with
 | none=>simp only [cp] at e; subst e; trivial
 | bn=>exact h.elim
 | bB _=>exact h.elim
 | tok _ _ _=>exact h.elim
 | aX ts=>
  cases lh with
  | none=>trivial
  | bn=>exact e.elim
  | bB z=>exact e.elim
  | tok _ _ _=>exact e.elim
  | aX PK=>trivial
theorem EC.mono {b o f off sz cap:Nat} {ro lh:RO} (h:EC b o f off sz cap ro) (e:cp ro lh):EC b o f off sz cap lh:=by
 cases ro with
 | none=>simp only [cp] at e; subst e; trivial
 | bn=>exact h.elim
 | bB _=>exact h.elim
 | tok f1 x y=>
  cases lh with
  | none=>trivial
  | bn=>exact e.elim
  | bB z=>exact e.elim
  | tok f' x' y'=>
   simp only [cp,EC] at *
   refine ⟨by omega,fun k=>?_⟩
   obtain ⟨e1,e2⟩:=e.2 (by omega)
   obtain ⟨h1,h2,h3⟩:=h.2 (by omega)
   exact ⟨h1.trans e1.symm,h2.trans e2.symm,h3⟩
  | aX _=>exact e.elim
 | aX _=>exact h.elim
theorem F2.mono {b o f i off sz:Nat} {ro lh:RO} (h:F2 b o f i off sz ro) (e:cp ro lh):F2 b o f i off sz lh:=by
 cases ro with
 | none=>simp only [cp] at e; subst e; trivial
 | bn=>exact h.elim
 | bB _=>exact h.elim
 | tok f1 x y=>
  cases lh with
  | none=>trivial
  | bn=>exact e.elim
  | bB z=>exact e.elim
  | tok f' x' y'=>
   simp only [cp,F2] at *
   refine ⟨by omega,fun k=>?_⟩
   obtain ⟨e1,e2⟩:=e.2 (by omega)
   obtain ⟨h1,h2⟩:=h.2 (by omega)
   exact ⟨h1.trans e1.symm,h2⟩
  | aX _=>exact e.elim
 | aX _=>exact h.elim
mutual
theorem Rel.mono {R R':ak} {w w':World} (e:Ext R w R' w'):∀ {a:AV} {c:Value},Rel R w a c→Rel R' w' a c
 | _,_,.bool b=>.bool b
 | _,_,.int k n=>.int k n
 | _,_,.str l=>.str l
 | _,_,.agg h h1=>.agg (h.mono e) h1
 | _,_,.bh h=>.bh (h.mono e)
 | _,_,.lj=>.lj
 | _,_,.ptr h=>.ptr (e.bB h)
 | _,_,.ep h=>.ep (h.mono e)
 | _,_,.iF=>.iF
 | _,_,.ia=>.ia
 | _,_,.lY=>.lY
 | _,_,.lZ h ho=>let ⟨_,h3,h4⟩:=e.obj _ _ h; .lZ h3 (ho.mono h4)
 | _,_,.kV h ho=>let ⟨_,h3,h4⟩:=e.obj _ _ h; .kV h3 (ho.mono h4)
 | _,_,.list h hl hc hk=>.list (h.mono e) hl hc (hk.mono e)
 | _,_,.iR h hc=>.iR (e.bB h) hc
 | _,_,.iY h ho=>let ⟨_,h3,h4⟩:=e.obj _ _ h; .iY h3 (ho.mono h4)
 | _,_,.dT h ho hc=>let ⟨_,h3,h4⟩:=e.obj _ _ h; .dT h3 (ho.mono h4) hc
 | _,_,.gp h ho=>let ⟨_,h3,h4⟩:=e.obj _ _ h; .gp h3 (ho.mono h4)
 | _,_,.jt=>.jt
 | _,_,.map h=>.map (e.bB h)
 | _,_,.dD=>.dD
 | _,_,.fn h h'=>.fn (h.mono e) (h'.mono e)
 | _,_,.yield h=>.yield (e.bB h)
 | _,_,.oB=>.oB
 | _,_,.iface h=>.iface (h.mono e)
theorem aI.mono {R R':ak} {w w':World} (e:Ext R w R' w'):∀ {l:List AV} {cs:List Value},aI R w l cs→aI R' w' l cs
 | _,_,.nil=>.nil
 | _,_,.cons h t=>.cons (h.mono e) (t.mono e)
theorem gl.mono {R R':ak} {w w':World} (e:Ext R w R' w'):∀ {b o sz:Nat} {l:List AV},gl R w b o sz l→gl R' w' b o sz l
 | _,_,_,_,.nil=>.nil
 | _,_,_,_,.cons hl ht hk h t=>.cons hl ht hk (h.mono e) (t.mono e)
theorem ew.mono {R R':ak} {w w':World} (e:Ext R w R' w'):∀ {b o:Nat} {l:List AV},ew R w b o l→ew R' w' b o l
 | _,_,_,.nil=>.nil
 | _,_,_,.cons hc h1 hi h t=>.cons ((e.cell _ _ hi).trans hc) h1 (e.I _ _ hi) (h.mono e) (t.mono e)
end
end Go.Am
namespace Go.Am
open Go
section lists
variable {α:Type}
theorem aU (l:List α) (n:Nat):nth l n=l[n]?:=by
 induction l generalizing n with
 | nil=>simp [nth]
 | cons a l ih=>cases n <;> simp [nth,ih]
theorem gw (l:List α) (n:Nat) (x:α):az l n x=l.set n x:=by
 induction l generalizing n with
 | nil=>simp [az]
 | cons a l ih=>cases n <;> simp [az,ih]
theorem bz {l:List α} {n:Nat} {x:α} (h:nth l n=some x):n < l.length:=by
 rw [aU] at h
 exact (List.getElem?_eq_some_iff.1 h).1
theorem aG {l:List α} {n:Nat} {x y:α} (h:nth l n=some y):nth (az l n x) n=some x:=by
 have:=bz h
 rw [aU,gw,List.getElem?_set_self this]
theorem bt {l:List α} {n m:Nat} {x:α} (h:n≠m):nth (az l n x) m=nth l m:=by
 rw [aU,gw,aU,List.getElem?_set_ne h]
theorem cY {l:List α} {n m:Nat} {x y:α} (h:nth (az l n x) m=some y):(n=m∧y=x∧m < l.length)∨(n≠m∧nth l m=some y):=by
 by_cases e:n=m
 ·subst e
  have hl:=bz h
  rw [gw,List.length_set] at hl
  rw [aU,gw,List.getElem?_set_self hl] at h
  exact .inl ⟨rfl,(Option.some.inj h).symm,hl⟩
 ·rw [bt e] at h
  exact .inr ⟨e,h⟩
@[simp] theorem gE (l:List α) (n:Nat) (x:α):(az l n x).length=l.length:=by rw [gw,List.length_set]
theorem ey (l:List α) (x:α):nth (l++[x]) l.length=some x:=by rw [aU]; simp
theorem cZ {l:List α} {n:Nat} {y x:α} (h:nth l n=some y):nth (l++[x]) n=some y:=by
 have:=bz h
 rw [aU] at *
 rw [List.getElem?_append_left this]
 exact h
theorem av {l:List α} {n:Nat} {y x:α} (h:nth (l++[x]) n=some y):nth l n=some y∨(n=l.length∧y=x):=by
 rw [aU] at *
 by_cases e:n < l.length
 ·rw [List.getElem?_append_left e] at h; exact .inl h
 ·rw [List.getElem?_append_right (by omega)] at h
  have hl:=(List.getElem?_eq_some_iff.1 h).1
  simp at hl
  have:n - l.length=0:=by omega
  rw [this] at h
  simp at h
  exact .inr ⟨by omega,h.symm⟩
theorem mV:∀ {l:List α} {n:Nat} {x:α},nth l n=some x→az l n x=l
 | [],_,_,h=>by cases h
 | a :: l,0,x,h=>by cases h; rfl
 | a :: l,n+1,x,h=>by
  show a :: az l n x=a :: l
  rw [mV (show nth l n=some x from h)]
end lists
def Me (R:ak) (w:World) (Qy:aW→Array Value→Prop) (busy:Bool) (pending:Option Code) (ae:aW) (n:Nat) (params:List Tmp) (assign body:Code) (defers:Nat) (done:Bool) (b:Nat):Prop:=
 ∃ (r:Loop) (db:Nat),w.heap[b]?=some (.loop r)∧r.state=(if done then .done else if busy then .busy else .ready)∧r.pending=pending ∧
  Qy ae r.tmps∧r.tmps.size=n∧r.params=⟨params⟩∧r.assign=assign∧r.body=body∧r.defers=db∧nth R.obj defers=some (.bB db)
def oE (R:ak) (w:World) (β:Nat→Nat):SV→Value→Prop
 | .none,_=>True
 | .v a,c=>Rel R w a c
 | .lp k off,c=>c=.pointer (some ⟨β k,off,none⟩)
def mW (R:ak) (w:World) (β:Nat→Nat) (ae:aW) (tmps:Array Value):Prop:=
 ∀ i,lk ae i≠.none→∃ c,tmps[i]?=some c∧oE R w β (lk ae i) c
def Dp:aW→Bool
 | []=>true
 | .put _ (.lp _ _) :: _=>false
 | _ :: l=>Dp l
def di (R:ak) (w:World):List (AV × AV)→List MapEntry→Prop
 | [],[]=>True
 | (k,v) :: l,e :: es=>Rel R w k e.key∧Rel R w v e.val∧di R w l es
 | _,_=>False
def xi (R:ak) (w:World) (sz:Nat) (e:TypeId) (f:Nat):TR→Prop
 | .bn=>f=0
 | .full f'=>f'=f
 | .tok f' b c=>f'=f∧∃ cur,w.heap[b]?=some (.cells cur e (0,0))∧f≤c∧c≤maxLen∧cur.size=c * sz∧∀ o,f * sz≤o→¬ R.I b o
def Qz (ts:List TR):Prop:=∀ i j f b c f' c',nth ts i=some (.tok f b c)→nth ts j=some (.tok f' b c')→i=j
def tM (R:ak) (w:World) (sz:Nat) (e:TypeId) (fs:List Nat) (ts:List TR):Prop:=
 ts.length=fs.length∧Qz ts∧∀ j f t,nth fs j=some f→nth ts j=some t→xi R w sz e f t
def iZ (aw:Array MapEntry) (clock:Nat):Prop:=clock=aw.size∧∀ (i:Nat) (e:MapEntry),aw.toList[i]?=some e→e.born=i
def QA (R:ak) (w:World) (pg n:Nat) (left:List Nat) (cur:Option Nat) (b:Nat):Prop:=
 ∃ bm seen c0,nth R.obj pg=some (.bB bm)∧w.heap[b]?=some (.mapIter (some bm) n seen c0)∧(∀ i,i < n→(i∈left↔seen.contains i=false))∧(∀ i∈left,i < n)∧left.Nodup∧n≤c0∧∀ i,cur=some i→seen.back?=some i∧c0=n
def gd (R:ak) (w:World):GO→RO→Prop
 | .dead,.none=>True
 | .dead,.bn=>True
 | .dead,.bB b=>b < w.heap.size
 | .dead,.tok _ b _=>b < w.heap.size
 | .dead,.aX ts=>∀ j f b c,nth ts j=some (.tok f b c)→b < w.heap.size
 | .aX fs sz e,.aX ts=>tM R w sz e fs ts
 | .gR pg n left cur _,.bB b=>QA R w pg n left cur b
 | .tok f _ _,.bn=>f=0
 | .row cs el,.bB b=>∃ vs,w.heap[b]?=some (.cells ⟨vs⟩ el (0,0))∧aI R w cs vs∧(∀ v∈vs,v.oneCell'=true)∧∀ o,¬ R.I b o
 | .tok f sz e,.tok f' b c=>f'=f∧∃ cur,w.heap[b]?=some (.cells cur e (0,0))∧f≤c∧c≤maxLen∧cur.size=c * sz∧∀ o,f * sz≤o→¬ R.I b o
 | .dE es _ _,.bn=>es=[]
 | .dE es sz e,.tok f b c=>f=es.length∧dC sz es∧∃ cur vs,w.heap[b]?=some (.cells cur e (0,0))∧f≤c∧c≤maxLen∧cur.size=c * sz∧(∀ o,¬ R.I b o)∧aI R w (au es) vs∧(∀ v∈vs,v.oneCell'=true)∧cur.toList.take (f * sz)=vs
 | .map es,.bB b=>∃ aw clock,w.heap[b]?=some (.map aw clock)∧di R w es aw.toList∧iZ aw clock
 | .fZ l pos,.bB b=>w.heap[b]?=some (.stringIter ⟨⟨l⟩⟩ pos)
 | .loop busy pending _ ae n params assign body defers done,.bB b=>Me R w (mW R w (fun _=>0)) busy pending ae n params assign body defers done b∧Dp ae=true
 | .defers o,.bB b=>w.heap[b]?=some (.deferred (if o then some [] else none))
 | _,_=>False
def kX (E:Env) (R:ak) (w:World) (g:Nat) (cs:List AV):Prop:=
 ew R w g 0 cs∧(E.gx g=true→R.I g cs.length∧w.cell? ⟨g,cs.length,none⟩=none)
theorem kX.mono {E:Env} {R R':ak} {w w':World} {g:Nat} {cs:List AV} (h:kX E R w g cs) (e:Ext R w R' w'):kX E R' w' g cs:=
 ⟨h.1.mono e,fun hx=>⟨e.I _ _ (h.2 hx).1,(e.cell _ _ (h.2 hx).1).trans (h.2 hx).2⟩⟩
structure dW (E:Env) (R:ak) (w:World) (G:List GO):Prop where
 len:R.obj.length=G.length
 obj:∀ id go ro,nth G id=some go→nth R.obj id=some ro→gd R w go ro
 inj:∀ i j ri rj b,nth R.obj i=some ri→nth R.obj j=some rj→ri.has b→rj.has b→i=j
 wf:∀ b o,R.I b o→b < w.heap.size
 dK:∀ g cs,E.dK g=some cs→kX E R w g cs
 lo:E.lo≤w.drawn
def Live (R:ak) (b:Nat):Prop:=∃ id ro,nth R.obj id=some ro∧ro.has b
structure I2 (R:ak) (w:World) (β:Nat→Nat) (boxes:cA):Prop where
 box:∀ k cs,dy boxes k=some cs→(∃ vs el,w.heap[β k]?=some (.cells ⟨vs⟩ el (0,0))∧aI R w cs vs∧(∀ v∈vs,v.oneCell'=true))∧(∀ o,¬ R.I (β k) o)∧¬ Live R (β k)
 inj:∀ k k' cs eQ,dy boxes k=some cs→dy boxes k'=some eQ→β k=β k'→k=k'
def oF (R:ak):List Nat→List Deferred→Prop
 | [],[]=>True
 | id :: l,d :: ds=>(∃ b,nth R.obj id=some (.bB b)∧d={ target:=.collected b,args:=#[] })∧oF R l ds
 | _,_=>False
structure aY (E:Env) (R:ak) (w:World) (β:Nat→Nat) (s:St) (a:Act):Prop where
 g:dW E R w s.G
 b:I2 R w β s.boxes
 t:mW R w β s.ae a.tmps
 n:a.tmps.size=s.n
 d:oF R s.marks a.defers
def Own (R:ak) (β:Nat→Nat) (boxes:cA) (b:Nat):Prop:=
 Live R b∨∃ k cs,dy boxes k=some cs∧β k=b
structure Step (R:ak) (w:World) (β:Nat→Nat) (bx:cA) (R':ak) (w':World) (β':Nat→Nat) (F4:cA):Prop where
 ext:Ext R w R' w'
 os:w'.os=w.os
 tape:w'.tape=w.tape
 output:w'.output=w.output
 size:w.heap.size≤w'.heap.size
 aZ:∀ b,b < w.heap.size→¬ Own R β bx b→w'.heap[b]?=w.heap[b]?
 own:∀ b,b < w.heap.size→Own R' β' F4 b→Own R β bx b
 im:∀ b o,R'.I b o→b < w.heap.size→¬ Own R β bx b→R.I b o
theorem Step.refl (R:ak) (w:World) (β:Nat→Nat) (bx:cA):Step R w β bx R w β bx:=
 ⟨Ext.refl R w,rfl,rfl,rfl,Nat.le_refl _,fun _ _ _=>rfl,fun _ _ h=>h,fun _ _ h _ _=>h⟩
theorem Step.trans {R R1 R2:ak} {w w1 w2:World} {β β1 β2:Nat→Nat} {x x1 x2:cA}
  (h:Step R w β x R1 w1 β1 x1) (k:Step R1 w1 β1 x1 R2 w2 β2 x2):Step R w β x R2 w2 β2 x2 where
 ext:=h.ext.trans k.ext
 os:=k.os.trans h.os
 tape:=k.tape.trans h.tape
 output:=k.output.trans h.output
 size:=Nat.le_trans h.size k.size
 aZ:=fun b hb hn=>(k.aZ b (Nat.lt_of_lt_of_le hb h.size) (fun ho=>hn (h.own b hb ho))).trans (h.aZ b hb hn)
 own:=fun b hb ho=>h.own b hb (k.own b (Nat.lt_of_lt_of_le hb h.size) ho)
 im:=fun b o hi hb hn=>h.im b o (k.im b o hi (Nat.lt_of_lt_of_le hb h.size) (fun ho=>hn (h.own b hb ho))) hb hn
theorem oE.mono {R R':ak} {w w':World} {β:Nat→Nat} (e:Ext R w R' w') {x:SV} {c:Value} (h:oE R w β x c):oE R' w' β x c:=by
 cases x with
 | none=>trivial
 | v a=>exact Rel.mono e h
 | lp k off=>exact h
theorem pV (n:Nat):Nat.beq n n=true:=Nat.beq_refl n
theorem ma {n m:Nat} (h:n≠m):Nat.beq n m=false:=by
 cases hb:Nat.beq n m with
 | true=>exact absurd (Nat.eq_of_beq_eq_true hb) h
 | false=>rfl
theorem ay (l:aW) (d:Nat) (x:SV):lk (.put d x :: l) d=x:=by simp [lk]
theorem aL {l:aW} {d t:Nat} {x:SV} (h:d≠t):lk (.put d x :: l) t=lk l t:=by simp [lk,ma h]
theorem Dq {l:aW} {d t:Nat}:(lk (.kill d :: l) t=lk l t∧∀ k off,lk l t=.lp k off→k≠d)∨lk (.kill d :: l) t=.none:=by
 simp only [lk]
 cases h:lk l t with
 | none=>exact .inr rfl
 | v a=>exact .inl ⟨rfl,fun _ _ e=>by cases e⟩
 | lp k off=>
  by_cases hk:k=d
  ·subst hk
   exact .inr (by simp)
  ·exact .inl ⟨by simp [ma hk],fun k' fH e=>by cases e; exact hk⟩
theorem F5 (l:cA) (d:Nat) (cs:List AV):dy ((d,cs) :: l) d=some cs:=by simp [dy]
theorem eA {l:cA} {d k:Nat} {cs eQ:List AV} (h:dy ((d,cs) :: l) k=some eQ):(d=k∧eQ=cs)∨(d≠k∧dy l k=some eQ):=by
 by_cases e:d=k
 ·subst e
  rw [F5] at h
  exact .inl ⟨rfl,(Option.some.inj h).symm⟩
 ·simp only [dy,ma e,cond_false] at h
  exact .inr ⟨e,h⟩
theorem I3 {l:cA} (h:l.all (fun p=>aR p.2)=true) {k:Nat} {cs:List AV} (hk:dy l k=some cs):aR cs=true:=by
 induction l with
 | nil=>simp [dy] at hk
 | cons x l ih=>
  obtain ⟨d,c⟩:=x
  simp only [List.all_cons,Bool.and_eq_true] at h
  rcases eA hk with ⟨_,rfl⟩ | ⟨_,hk⟩
  ·exact h.1
  ·exact ih h.2 hk
theorem mW.put {R:ak} {w:World} {β:Nat→Nat} {ae:aW} {a:Act} (h:mW R w β ae a.tmps) {d:Tmp} {x:SV} {c:Value} (hd:d < a.tmps.size) (hx:oE R w β x c) :
  mW R w β (.put d x :: ae) (a.put (some d) c).tmps:=by
 intro i hi
 by_cases e:d=i
 ·subst e
  rw [ay]
  exact ⟨c,by simp [Act.put,hd],hx⟩
 ·rw [aL e] at hi ⊢
  obtain ⟨c',h1,h2⟩:=h i hi
  refine ⟨c',?_,h2⟩
  simp only [Act.put]
  rw [Array.getElem?_setIfInBounds_ne e]
  exact h1
theorem aY.put {E:Env} {R:ak} {w:World} {β:Nat→Nat} {s:St} {a:Act} (h:aY E R w β s a) (dst:Option Tmp) {x:SV} {c:Value} (hx:oE R w β x c) :
  aY E R w β (s.put dst x) (a.put dst c):=by
 cases dst with
 | none=>exact h
 | some d=>
  simp only [St.put]
  cases hb:Nat.blt d s.n with
  | true=>
   have hd:d < a.tmps.size:=by rw [h.n]; exact Nat.le_of_ble_eq_true hb
   exact ⟨h.g,h.b,h.t.put hd hx,by simp [Act.put,h.n],h.d⟩
  | false=>
   have hd:¬ d < a.tmps.size:=by
    rw [h.n]
    intro bT
    have:Nat.blt d s.n=true:=Nat.ble_eq_true_of_le bT
    rw [this] at hb
    cases hb
   have he:a.put (some d) c=a:=by
    simp only [Act.put]
    rw [Array.setIfInBounds_eq_of_size_le (Nat.not_lt.1 hd)]
   rw [he]
   exact h
theorem pW {R:ak} {w:World} {v:Value} {a:AV} (h:pN v=some a):Rel R w a v∧v.oneCell'=true:=by
 unfold pN at h
 split at h <;> cases h
 ·exact ⟨.bool _,rfl⟩
 ·exact ⟨.int _ _,rfl⟩
 ·rename_i s
  exact ⟨.str s.data.toList,rfl⟩
 ·exact ⟨.iF,rfl⟩
 ·exact ⟨.lj,rfl⟩
 ·exact ⟨.jt,rfl⟩
 ·exact ⟨.dD,rfl⟩
 ·exact ⟨.oB,rfl⟩
theorem mb {R:ak} {w:World}:∀ {vs:List Value} {l:List AV},ll vs=some l→aI R w l vs∧∀ v∈vs,v.oneCell'=true
 | [],l,h=>by simp [ll] at h; subst h; exact ⟨.nil,by simp⟩
 | v :: vs,l,h=>by
  unfold ll at h
  split at h
  ·rename_i a r h1 h2
   cases h
   obtain ⟨k1,k2⟩:=pW (R:=R) (w:=w) h1
   obtain ⟨k3,k4⟩:=mb (R:=R) (w:=w) h2
   exact ⟨.cons k1 k3,by simp [k2]; exact k4⟩
  ·cases h
theorem se {R:ak} {w:World} {v:Value} {a:AV} (h:pO v=some a):Rel R w a v:=by
 unfold pO at h
 split at h
 ·rename_i cs
  split at h
  ·rename_i l hl
   cases h
   obtain ⟨k1,k2⟩:=mb (R:=R) (w:=w) hl
   exact .agg (vs:=cs.toList) k1 k2
  ·cases h
 ·rename_i cs
  split at h
  ·rename_i l hl
   cases h
   obtain ⟨k1,_⟩:=mb (R:=R) (w:=w) hl
   exact .bh (vs:=cs.toList) k1
  ·cases h
 ·exact (pW h).1
theorem aN {E:Env} {R:ak} {w:World} {β:Nat→Nat} {s:St} {a:Act} (h:aY E R w β s a) (x:Operand):oE R w β (bi E s.ae x) (a.eval x):=by
 cases x with
 | tmp t=>
  simp only [bi,Act.eval]
  by_cases hn:lk s.ae t=.none
  ·rw [hn]; trivial
  ·obtain ⟨c,h1,h2⟩:=h.t t hn
   have:a.tmps.getD t undef=c:=by simp [Array.getD_eq_getD_getElem?,h1]
   rw [this]
   exact h2
 | const v=>
  simp only [bi,Act.eval]
  cases hc:pO v with
  | none=>trivial
  | some y=>exact se hc
 | global g=>
  simp only [bi,Act.eval]
  cases hg:E.dK g with
  | none=>trivial
  | some cs=>exact Rel.ep (h.g.dK g cs hg).1
 | func f=>exact Rel.fn .nil .nil
end Go.Am
