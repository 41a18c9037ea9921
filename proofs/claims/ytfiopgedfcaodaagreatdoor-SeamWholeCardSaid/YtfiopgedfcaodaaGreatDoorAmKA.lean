/- The abstract machine: its values,its state,and what each operation does (definitions alone). -/
import Derived.CallsIn
import Derived.RangeFuncLeaves
import Derived.Laws.AppendOwn
set_option linter.all false
namespace Go.Am
open Go
inductive LK where
 | nil | full | gr | own (id:Nat) | aP (id j:Nat)
inductive AV where
 | bool (b:Bool)
 | int (k:IntKind) (n:Int)
 | str (s:List UInt8)
 | agg (cs:List AV)
 | bH (vs:List AV)
 | kL
 | ptr (id off:Nat)
 | ep (cs:List AV)
 | list (k:LK) (sz:Nat) (es:List AV)
 | kM (id off sz len cap:Nat)
 | cR (id f off sz len:Nat)
 | gp (id f i off sz:Nat) (t:TypeId)
 | jS
 | map (id:Nat)
 | cu
 | fn (f:FuncId) (first cap:List AV)
 | yield (id:Nat)
 | nU
 | iface (t:TypeId) (v:AV)
def LK.closed:LK→Bool
 | .own _=>false
 | .aP _ _=>false
 | _=>true
mutual
def AV.closed:AV→Bool
 | .agg cs=>aC cs
 | .bH cs=>aC cs
 | .ep cs=>aC cs
 | .list k _ _=>k.closed
 | .fn _ x y=>aC x&&aC y
 | .iface _ v=>v.closed
 | .ptr _ _=>false
 | .kM _ _ _ _ _=>false
 | .cR _ _ _ _ _=>false
 | .gp _ _ _ _ _ _=>false
 | .map _=>false
 | .yield _=>false
 | _=>true
def aC:List AV→Bool
 | []=>true
 | a :: l=>a.closed&&aC l
end
mutual
def AV.fx:AV→AV
 | .agg cs=>.agg (kR cs)
 | .bH cs=>.bH (kR cs)
 | .list (.own _) sz es=>.list .gr sz es
 | .list (.aP _ _) sz es=>.list .gr sz es
 | v=>v
def kR:List AV→List AV
 | []=>[]
 | a :: l=>a.fx :: kR l
end
inductive SV where
 | none
 | v (a:AV)
 | lp (key off:Nat)
inductive Ent where
 | put (d:Nat) (x:SV)
 | kill (d:Nat)
abbrev bp:=List Ent
abbrev cF:=List (Nat × List AV)
def lk:bp→Nat→SV
 | [],_=>.none
 | .put d x :: l,t=>bif Nat.beq d t then x else lk l t
 | .kill d :: l,t=>match lk l t with
  | .lp k off=>bif Nat.beq k d then .none else .lp k off
  | x=>x
def dS:cF→Nat→Option (List AV)
 | [],_=>none
 | (d,cs) :: l,k=>bif Nat.beq d k then some cs else dS l k
inductive GO where
 | dead
 | row (cs:List AV) (el:TypeId)
 | tok (f sz:Nat) (e:TypeId)
 | aP (fs:List Nat) (sz:Nat) (e:TypeId)
 | nZ (qm n:Nat) (left:List Nat) (cur:Option Nat) (t:TypeId)
 | a7 (es:List AV) (sz:Nat) (el:TypeId)
 | map (es:List (AV × AV))
 | gf (s:List UInt8) (pos:Nat)
 | loop (busy:Bool) (pending:Option Code) (fn:FuncId) (ae:bp) (n:Nat) (params:List Tmp) (assign body:Code) (defers:Nat) (done:Bool)
 | defers (open_:Bool)
structure St where
 ae:bp
 boxes:cF
 G:List GO
 marks:List Nat
 ro:Option Nat
 n:Nat
def nth {α:Type}:List α→Nat→Option α
 | [],_=>none
 | a :: _,0=>some a
 | _ :: l,n+1=>nth l n
def ap {α:Type}:List α→Nat→α→List α
 | [],_,_=>[]
 | _ :: l,0,x=>x :: l
 | a :: l,n+1,x=>a :: ap l n x
def takeN {α:Type}:Nat→List α→Option (List α)
 | 0,_=>some []
 | _+1,[]=>none
 | n+1,a :: l=>match takeN n l with
  | some r=>some (a :: r)
  | none=>none
def ft {α:Type}:Nat→List α→List α
 | 0,l=>l
 | _+1,[]=>[]
 | n+1,_ :: l=>ft n l
def Gm {α:Type} (off n:Nat) (l:List α):Option (List α):=takeN n (ft off l)
def bc {α:Type}:List α→Nat→List α→List α
 | l,_,[]=>l
 | [],_,_ :: _=>[]
 | _ :: l,0,y :: ys=>y :: bc l 0 ys
 | a :: l,n+1,y :: ys=>a :: bc l n (y :: ys)
def AV.cells:AV→List AV
 | .agg cs=>cs
 | v=>[v]
def AV.one:AV→Bool
 | .agg _=>false
 | .bH _=>false
 | _=>true
def rq:Value→Option AV
 | .bool b=>some (.bool b)
 | .int k n=>some (.int k n)
 | .string s=>some (.str s.data.toList)
 | .slice none 0 0=>some (.list .nil 0 [])
 | .pointer none=>some .kL
 | .map none=>some .jS
 | .nilFunc=>some .cu
 | .nilIface=>some .nU
 | _=>none
def lP:List Value→Option (List AV)
 | []=>some []
 | v :: vs=>match rq v,lP vs with
  | some a,some l=>some (a :: l)
  | _,_=>none
def rr:Value→Option AV
 | .agg cs=>match lP cs.toList with
  | some l=>some (.agg l)
  | none=>none
 | .tuple cs=>match lP cs.toList with
  | some l=>some (.bH l)
  | none=>none
 | v=>rq v
inductive TK where
 | sc
 | int (k:IntKind)
 | str
 | st (fs:List (Nat × Nat × Bool))
 | arr (len esz:Nat) (aaB:Bool)
 | sl (elem esz:Nat) (aaB:Bool) (bw:Nat) (Wt:Option AV)
 | map (key elem:TypeId) (Wt:Option AV)
mutual
inductive EK where
 | no
 | bool
 | int
 | str
 | st (fs:SI)
inductive SI where
 | nil
 | cons (off sz:Nat) (ag:Bool) (k:EK) (rest:SI)
end
structure TI where
 k:TK
 size:Nat
 agg:Bool
 zero:Option AV
 ek:EK
def jG:TypeDesc→Bool
 | .struct _=>true
 | .array _ _=>true
 | _=>false
def fieldsOf (P:Program):List Field→Option (List (Nat × Nat × Bool))
 | []=>some []
 | f :: fs=>match P.info? f.type,P.underlying f.type,fieldsOf P fs with
  | some i,some u,some l=>some ((f.offset,i.size,jG u) :: l)
  | _,_,_=>none
def fP (i:TypeInfo):Option AV:=match i.zero with
 | some z=>rr z
 | none=>none
def pL (P:Program):TypeDesc→Option TK
 | .int k=>some (.int k)
 | .string=>some .str
 | .struct fs=>match fieldsOf P fs.toList with
  | some l=>some (.st l)
  | none=>none
 | .array n e=>match P.info? e,P.underlying e with
  | some i,some u=>some (.arr n i.size (jG u))
  | _,_=>none
 | .slice e=>match P.info? e,P.underlying e with
  | some i,some u=>some (.sl e i.size (jG u) i.bytes (fP i))
  | _,_=>none
 | .map k e=>match P.info? e with
  | some i=>some (.map k e (fP i))
  | none=>none
 | _=>some .sc
def Ew (P:Program) (ek:TypeId→EK):List Field→Option SI
 | []=>some .nil
 | f :: fs => if f.name == "_" then none else match P.info? f.type, P.underlying f.type, Ew P ek fs with
  | some i,some u,some l=>some (.cons f.offset i.size (jG u) (ek f.type) l)
  | _,_,_=>none
def vW (sz:Nat) (ag:Bool) (k:EK):Nat→Nat→SI
 | 0,_=>.nil
 | n+1,i=>.cons (i * sz) sz ag k (vW sz ag k n (i+1))
def pM (P:Program):Nat→TypeId→EK
 | 0,_=>.no
 | n+1,t=>match P.underlying t with
  | some .bool=>.bool
  | some (.int _)=>.int
  | some .string=>.str
  | some (.struct fs)=>if P.stoodInHeld t then .no else match Ew P (pM P n) fs.toList with
   | some l=>.st l
   | none=>.no
  | some (.array m e)=>match P.info? e,P.underlying e with
   | some i,some u=>.st (vW i.size (jG u) (pM P n e) m 0)
   | _,_=>.no
  | _=>.no
def tW (P:Program) (t:TypeId):EK:=match pM P 6 t with
 | .st l=>if P.eqGuardType P.depth t then .no else .st l
 | k=>k
def HS (P:Program) (t:TypeId):Option TI:=
 match P.info? t,P.underlying t with
 | some i,some u=>match pL P u with
  | some k=>some { k:=k,size:=i.size,agg:=jG u,zero:=fP i,ek:=tW P t }
  | none=>none
 | _,_=>none
def ru:AV→AV→Bool
 | .bool a,.bool b=>a == b
 | .int k a,.int k' b=>(k == k')&&a == b
 | .str a,.str b=>a == b
 | .kL,.kL=>true
 | .ptr i o,.ptr i' o'=>Nat.beq i i'&&Nat.beq o o'
 | .jS,.jS=>true
 | .map i,.map i'=>Nat.beq i i'
 | .cu,.cu=>true
 | .nU,.nU=>true
 | .kM a b c d e,.kM a' b' c' d' e'=>Nat.beq a a'&&Nat.beq b b'&&Nat.beq c c'&&Nat.beq d d'&&Nat.beq e e'
 | .cR a b c d e,.cR a' b' c' d' e'=>Nat.beq a a'&&Nat.beq c c'&&Nat.beq d d'&&(Nat.beq b b'&&Nat.beq e e')
 | .gp a b c d e t,.gp a' b' c' d' e' t'=>Nat.beq a a'&&Nat.beq b b'&&Nat.beq c c'&&Nat.beq d d'&&Nat.beq e e'&&Nat.beq t t'
 | _,_=>false
mutual
def cM:AV→AV→Bool
 | .fn f x y,.fn f' x' y'=>Nat.beq f f'&&eY x x'&&eY y y'
 | .agg cs,.agg eV=>eY cs eV
 | .ep cs,.ep eV=>eY cs eV
 | .bH cs,.bH eV=>eY cs eV
 | .list .nil a es,.list .nil a' es'=>Nat.beq a a'&&eY es es'
 | .list .full a es,.list .full a' es'=>Nat.beq a a'&&eY es es'
 | .list .gr a es,.list .gr a' es'=>Nat.beq a a'&&eY es es'
 | .list (.own i) a es,.list (.own i') a' es'=>Nat.beq i i'&&Nat.beq a a'&&eY es es'
 | .list (.aP i j) a es,.list (.aP i' j') a' es'=>Nat.beq i i'&&Nat.beq j j'&&Nat.beq a a'&&eY es es'
 | a,b=>ru a b
def eY:List AV→List AV→Bool
 | [],[]=>true
 | a :: l,b :: r=>cM a b&&eY l r
 | _,_=>false
end
mutual
inductive aA
 | int (k:IntKind)
 | bool
 | str
 | agg (ps:aO)
 | bH (ps:aO)
 | list (sz:Nat) (p:aA)
 | own (id sz:Nat) (p:aA)
 | aP (id sz:Nat) (p:aA)
 | eo (v:AV)
 | two (u v:AV)
inductive aO
 | nil
 | cons (p:aA) (ps:aO)
end
def Wu (s:Bool) (α β:Type):Type:=match s with
 | true=>α
 | false=>α × β
def aO.isNil:aO→Bool
 | .nil=>true
 | .cons _ _=>false
mutual
def aA.T:aA→Type
 | .int _=>Int
 | .bool=>Bool
 | .str=>List UInt8
 | .agg ps=>ps.T
 | .bH ps=>ps.T
 | .list _ p=>List p.T
 | .own _ _ p=>List p.T
 | .aP _ _ p=>Nat × List p.T
 | .eo _=>Unit
 | .two _ _=>Bool
def aO.T:aO→Type
 | .nil=>Unit
 | .cons p ps=>Wu ps.isNil p.T ps.T
end
mutual
def aA.enc:(p:aA)→p.T→AV
 | .int k,(n:Int)=>.int k n
 | .bool,(b:Bool)=>.bool b
 | .str,(s:List UInt8)=>.str s
 | .agg ps,x=>.agg (ps.enc x)
 | .bH ps,x=>.bH (ps.enc x)
 | .list sz p,(xs:List p.T)=>.list .gr sz (xs.map p.enc)
 | .own id sz p,(xs:List p.T)=>.list (.own id) sz (xs.map p.enc)
 | .aP id sz p,(x:Nat × List p.T)=>.list (.aP id x.1) sz (x.2.map p.enc)
 | .eo v,_=>v
 | .two u v,(b:Bool)=>bif b then v else u
def aO.enc:(ps:aO)→ps.T→List AV
 | .nil,_=>[]
 | .cons p .nil,x=>[p.enc x]
 | .cons p (.cons q ps),x=>p.enc x.1 :: (aO.cons q ps).enc x.2
end
def VX:IntKind→IntKind→Bool:=fun a b=>decide (a=b)
def AV.jG:AV→List AV
 | .agg cs=>cs
 | _=>[]
def AV.SJ:AV→List AV
 | .bH cs=>cs
 | _=>[]
def AV.dJ:AV→List AV
 | .list _ _ es=>es
 | _=>[]
def AV.aaC:AV→Nat
 | .list (.aP _ j) _ _=>j
 | _=>0
def AV.qn:AV→Int
 | .int _ n=>n
 | _=>0
def AV.Wv:AV→Bool
 | .bool b=>b
 | _=>false
def AV.SK:AV→List UInt8
 | .str s=>s
 | _=>[]
def dT:List AV→AV
 | a :: _=>a
 | []=>.kL
def Jx:List AV→List AV
 | _ :: l=>l
 | []=>[]
mutual
def aA.bh:(p:aA)→AV→p.T
 | .int _,v=>v.qn
 | .bool,v=>v.Wv
 | .str,v=>v.SK
 | .agg ps,v=>ps.bh v.jG
 | .bH ps,v=>ps.bh v.SJ
 | .list _ p,v=>v.dJ.map p.bh
 | .own _ _ p,v=>v.dJ.map p.bh
 | .aP _ _ p,v=>(v.aaC,v.dJ.map p.bh)
 | .eo _,_=>()
 | .two _ v,a=>cM a v
def aO.bh:(ps:aO)→List AV→ps.T
 | .nil,_=>()
 | .cons p .nil,l=>p.bh (dT l)
 | .cons p (.cons q ps),l=>(p.bh (dT l),(aO.cons q ps).bh (Jx l))
end
def allFit (f:AV→Bool):List AV→Bool
 | []=>true
 | a :: l=>f a&&allFit f l
mutual
def aA.fits:aA→AV→Bool
 | .int k,v=>match v with
  | .int k' _=>VX k k'
  | _=>false
 | .bool,v=>match v with
  | .bool _=>true
  | _=>false
 | .str,v=>match v with
  | .str _=>true
  | _=>false
 | .agg ps,v=>match v with
  | .agg cs=>ps.fits cs
  | _=>false
 | .bH ps,v=>match v with
  | .bH cs=>ps.fits cs
  | _=>false
 | .list sz p,v=>match v with
  | .list _ bK es=>(Nat.beq sz bK || es.isEmpty)&&allFit p.fits es
  | _=>false
 | .own id sz p,v=>match v with
  | .list (.own jF) bK es=>(Nat.beq id jF&&Nat.beq sz bK)&&allFit p.fits es
  | _=>false
 | .aP id sz p,v=>match v with
  | .list (.aP jF _) bK es=>(Nat.beq id jF&&Nat.beq sz bK)&&allFit p.fits es
  | _=>false
 | .eo v,u=>cM u v
 | .two u v,a=>cM a u || cM a v
def aO.fits:aO→List AV→Bool
 | .nil,l=>l.isEmpty
 | .cons p ps,l=>match l with
  | a :: l=>p.fits a&&ps.fits l
  | []=>false
end
def aA.dec (p:aA) (v:AV):Option p.T:=bif p.fits v then some (p.bh v) else none
def aO.dec (ps:aO) (l:List AV):Option ps.T:=bif ps.fits l then some (ps.bh l) else none
structure Env where
 P:Program
 ti:TypeId→Option TI
 cw:Nat→Option (List AV)
 Ch:FuncId→Tmp→Bool
 RN:TypeId→Option aA
 lo:Nat:=0
 gho:FuncId→Tmp→List (Option Nat × Nat × TypeId):=fun _ _=>[]
 Zt:TypeId→Option aA:=fun _=>none
 gx:Nat→Bool:=fun _=>false
 HT:∀ t i,ti t=some i→HS P t=some i
 mixed:P.follows .mixedOrders=true
 vX:∀ g cs,cw g=some cs→aC cs=true
def bS (E:Env) (ae:bp):Operand→SV
 | .tmp t=>lk ae t
 | .const v=>match rr v with
  | some a=>.v a
  | none=>.none
 | .global g=>match E.cw g with
  | some cs=>.v (.ep cs)
  | none=>.none
 | .func f=>.v (.fn f [] [])
def St.put (s:St) (dst:Option Tmp) (x:SV):St:=match dst with
 | some d=>match Nat.blt d s.n with
  | true=>⟨.put d x :: s.ae,s.boxes,s.G,s.marks,s.ro,s.n⟩
  | false=>s
 | none=>s
def gJ:AV:=.bH []
def s7 (agg:Bool) (cs:List AV):Option AV:=
 if agg then some (.agg cs) else match cs with
  | [c]=>some c
  | _=>none
def mG (s:St):SV→Option (List AV × Nat)
 | .lp k off=>match dS s.boxes k with
  | some cs=>some (cs,off)
  | none=>none
 | .v (.ptr id off)=>match nth s.G id with
  | some (.row cs _)=>some (cs,off)
  | _=>none
 | .v (.ep cs)=>some (cs,0)
 | _=>none
def Gn (n:Nat):SV→Option SV
 | .lp k off=>some (.lp k (off+n))
 | .v (.ptr id off)=>some (.v (.ptr id (off+n)))
 | .v (.ep cs)=>some (.v (.ep (ft n cs)))
 | .v (.gp id f i off sz t)=>some (.v (.gp id f i (off+n) sz t))
 | _=>none
def AQ (t:Bool):AV→AV→AV
 | .bool x,.bool y=>.bool (bif t then x else y)
 | .int k x,.int k' y=>if k=k' then .int k (bif t then x else y) else (bif t then .int k x else .int k' y)
 | a,b=>bif t then a else b
def Gp (ag:Bool) (off sz:Nat) (cs:List AV):Option AV:=
 if ag then (match Gm off sz cs with | some l=>s7 true l | none=>none) else (match Gm off 1 cs with | some l=>s7 false l | none=>none)
mutual
def kN:EK→AV→AV→Option Bool
 | .bool,.bool a,.bool b=>some (a == b)
 | .int,.int k a,.int k' b=>if k=k' then some (a == b) else none
 | .str,.str a,.str b=>some (a == b)
 | .st fs,.agg xs,.agg ys=>s8 fs xs ys
 | _,_,_=>none
def s8:SI→List AV→List AV→Option Bool
 | .nil,_,_=>some true
 | .cons off sz ag k rest,xs,ys=>match Gp ag off sz xs,Gp ag off sz ys with
  | some a,some b=>match kN k a b,s8 rest xs ys with
   | some t,some u=>some (t&&u)
   | _,_=>none
  | _,_=>none
end
def pN (k:IntKind) (a b:Int):Int:=k.wrap (BitVec.ofInt k.bits a &&& BitVec.ofInt k.bits b).toNat
def orI (k:IntKind) (a b:Int):Int:=k.wrap (BitVec.ofInt k.bits a ||| BitVec.ofInt k.bits b).toNat
def HU (k:IntKind) (a b:Int):Int:=k.wrap (BitVec.ofInt k.bits a ^^^ BitVec.ofInt k.bits b).toNat
def Ci (op:BinOp) (x y:AV):Option (Bool × AV):=
 match x,y with
 | .int k a,.int k' b=>
  match op with
  | .shl=>some (decide (0≤b),.int k (k.wrap (a * 2 ^ (min b.toNat k.bits))))
  | .shr=>some (decide (0≤b),.int k (a.fdiv (2 ^ (min b.toNat k.bits))))
  | _=>if k=k' then
    match op with
    | .add=>some (true,.int k (k.wrap (a+b)))
    | .sub=>some (true,.int k (k.wrap (a - b)))
    | .mul=>some (true,.int k (k.wrap (a * b)))
    | .quo=>some (!(decide (b=0)),.int k (k.wrap (a.tdiv b)))
    | .rem=>some (!(decide (b=0)),.int k (a.tmod b))
    | .and=>some (true,.int k (pN k a b))
    | .or=>some (true,.int k (orI k a b))
    | .xor=>some (true,.int k (HU k a b))
    | .eql=>some (true,.bool (a == b))
    | .neq=>some (true,.bool (a != b))
    | .lss=>some (true,.bool (a < b))
    | .leq=>some (true,.bool (a≤b))
    | .gtr=>some (true,.bool (a > b))
    | .geq=>some (true,.bool (a≥b))
    | _=>none
   else none
 | .str a,.str b=>
  match op with
  | .add=>some (decide (a.length+b.length≤9223372036854775807),.str (a++b))
  | .eql=>some (true,.bool (a == b))
  | .neq=>some (true,.bool (!(a == b)))
  | .lss=>some (true,.bool (Op.bytesLess a b))
  | .leq=>some (true,.bool (Op.bytesLess a b || a == b))
  | .gtr=>some (true,.bool (!(Op.bytesLess a b || a == b)))
  | .geq=>some (true,.bool (!(Op.bytesLess a b)))
  | _=>none
 | _,_=>none
end Go.Am
namespace Go.Am
open Go
def St.kill (s:St) (d:Nat):St:=⟨.kill d :: s.ae,s.boxes,s.G,s.marks,s.ro,s.n⟩
def AV.aV:AV→Bool
 | .bH _=>false
 | _=>true
def St.dP (s:St) (o:GO):St:=⟨s.ae,s.boxes,s.G++[o],s.marks,s.ro,s.n⟩
def St.bY (s:St) (G:List GO):St:=⟨s.ae,s.boxes,G,s.marks,s.ro,s.n⟩
def St.yZ (s:St) (d:Nat) (cs:List AV):St:=⟨s.ae,(d,cs) :: s.boxes,s.G,s.marks,s.ro,s.n⟩
def iI (E:Env) (f:FuncId) (s:St) (dst:Option Tmp) (el:TypeId) (cs:List AV):Option (Bool × St):=
 match dst with
 | none=>none
 | some d=>
  if E.Ch f d then some (true,(s.dP (.row cs el)).put (some d) (.v (.ptr s.G.length 0)))
  else match Nat.blt d s.n with
   | true=>some (true,((s.kill d).yZ d cs).put (some d) (.lp d 0))
   | false=>none
def mC (E:Env) (ae:bp):List Operand→Option (List AV)
 | []=>some []
 | x :: l=>match bS E ae x,mC E ae l with
  | .v a,some r=>some (a :: r)
  | _,_=>none
def Nu (E:Env) (ae:bp):List (Nat × Operand)→Option (List (Nat × AV))
 | []=>some []
 | (i,x) :: l=>match bS E ae x,Nu E ae l with
  | .v a,some r=>some ((i,a) :: r)
  | _,_=>none
def placeOf:TK→Nat→Option (Nat × Nat)
 | .st fs,j=>match nth fs j with
  | some (o,sz,_)=>some (o,sz)
  | none=>none
 | .arr _ esz _,j=>some (j * esz,esz)
 | _,_=>none
def vY (place:Nat→Option (Nat × Nat)) (cells:List AV):List (Nat × AV)→Option (List AV)
 | []=>some cells
 | (i,v) :: rest=>match place i with
  | none=>none
  | some (off,sz)=>
   if v.aV&&Nat.beq v.cells.length sz&&Nat.ble (off+sz) cells.length then vY place (bc cells off v.cells) rest else none
def Cj (esz:Nat) (es:List AV):List (Nat × AV)→Option (List AV)
 | []=>some es
 | (i,v) :: rest=>
  if v.aV&&Nat.beq v.cells.length esz&&Nat.ble (i+1) es.length&&v.closed then Cj esz (ap es i v) rest else none
def mH (E:Env) (s:St) (t:TypeId) (parts:List (Nat × Operand)):Option AV:=
 match E.ti t,Nu E s.ae parts with
 | some i,some ps=>match i.zero with
  | some z=>match vY (placeOf i.k) z.cells ps with
   | some cs=>if i.agg&&z.aV then some (.agg cs) else none
   | none=>none
  | none=>none
 | _,_=>none
def Ck:List (Nat × AV)→List (Nat × AV)
 | []=>[]
 | (i,v) :: l=>(i,v.fx) :: Ck l
def bV (E:Env) (s:St) (t:TypeId) (len:Nat) (parts:List (Nat × Operand)):Option AV:=
 match E.ti t,Nu E s.ae parts with
 | some i,some ps=>match i.k with
  | .sl _ esz _ _ (some z)=>
    if Nat.beq z.cells.length esz&&Nat.ble 1 esz&&Nat.ble (len * esz) 16777216&&z.aV&&z.closed then
     match Cj esz (List.replicate len z) (Ck ps) with
     | some es=>some (.list .full esz es)
     | none=>none
    else none
  | _=>none
 | _,_=>none
def rv (E:Env) (s:St) (t:TypeId) (p:SV):Option AV:=
 match E.ti t,mG s p with
 | some i,some (cs,off)=>match Gm off i.size cs with
  | some l=>s7 i.agg l
  | none=>none
 | _,_=>none
def lh (E:Env) (s:St) (t:TypeId) (p x:SV):Option St:=
 match E.ti t,x with
 | some i,.v v=>
  if v.aV&&Nat.beq v.cells.length i.size then
   match p with
   | .lp k off=>match dS s.boxes k with
    | some cs=>if Nat.ble (off+v.cells.length) cs.length then some (s.yZ k (bc cs off v.cells)) else none
    | none=>none
   | .v (.ptr id off)=>match nth s.G id with
    | some (.row cs el)=>if Nat.ble (off+v.cells.length) cs.length then some (s.bY (ap s.G id (.row (bc cs off v.cells) el))) else none
    | _=>none
   | _=>none
  else none
 | _,_=>none
def ab (es:List AV) (n:Nat):AV:=match nth es n with
 | some e=>e
 | none=>gJ
def jf:List GO→Nat→TypeId→Nat→Option Nat
 | [],_,_,_=>none
 | .aP _ sz e :: G,bK,e',i=>match jf G bK e' (i+1) with
  | some j=>some j
  | none=>bif Nat.beq sz bK&&Nat.beq e e' then some i else none
 | _ :: G,bK,e',i=>jf G bK e' (i+1)
def aA.fin (G:List GO):aA→aA
 | .aP e sz p=>match jf G sz e 0 with
  | some id=>.aP id sz p
  | none=>.aP e sz p
 | .agg ps=>.agg (Ww ps)
 | p=>p
where
 Ww:aO→aO
  | .nil=>.nil
  | .cons p ps=>.cons (match p with
   | .aP e sz q=>match jf G sz e 0 with
    | some id=>.aP id sz q
    | none=>.aP e sz q
   | p=>p) (Ww ps)
def RQ (E:Env) (G:List GO) (t:TypeId):Option aA:=match E.Zt t with
 | some p=>some (p.fin G)
 | none=>E.RN t
def vZ (E:Env) (s:St) (id f i sz:Nat) (t:TypeId):Option (Bool × AV):=match nth s.G id with
 | some (.a7 es bK _)=>match RQ E s.G t with
  | some p=>if Nat.beq sz bK then some (decide (f=es.length)&&decide (i < es.length)&&p.fits (ab es i),p.enc (p.bh (ab es i))) else none
  | none=>if Nat.beq sz bK then some (decide (f=es.length)&&decide (i < es.length),ab es i) else none
 | _=>none
def zG (E:Env) (s:St) (t:TypeId) (p:SV):Option (Bool × AV):=match p with
 | .v (.gp id f i off sz ty)=>match E.ti t,vZ E s id f i sz ty with
  | some ti,some (c,v)=>match Gm off ti.size v.cells with
   | some l=>match s7 ti.agg l with
    | some r=>some (c,r)
    | none=>none
   | none=>none
  | _,_=>none
 | p=>match rv E s t p with
  | some v=>some (true,v)
  | none=>none
def li (E:Env) (s:St) (t:TypeId) (p x:SV):Option (Bool × St):=match p with
 | .v (.gp id f i off sz ty)=>match E.ti t,x,nth s.G id with
  | some ti,.v x,some (.a7 es bK el)=>
   if x.aV&&Nat.beq x.cells.length ti.size&&Nat.beq sz bK then
    if Nat.beq off 0&&Nat.beq ti.size sz then some (decide (f=es.length)&&decide (i < es.length),s.bY (ap s.G id (.a7 (ap es i x) bK el)))
    else match vZ E s id f i sz ty with
     | some (c,.agg cs)=>if Nat.ble (off+ti.size) cs.length&&Nat.beq cs.length sz then some (c,s.bY (ap s.G id (.a7 (ap es i (.agg (bc cs off x.cells))) bK el))) else none
     | _=>none
   else none
  | _,_,_=>none
 | p=>match lh E s t p x with
  | some s'=>some (true,s')
  | none=>none
def qo (E:Env) (t:TypeId) (x ix:SV):Option (Bool × SV):=
 match E.ti t,ix with
 | some i,.v (.int _ n)=>match i.k,x with
  | .sl _ esz _ _ _,.v (.list _ sz es)=>if Nat.beq sz esz || es.isEmpty then
    match E.RN t with
    | some p=>some (decide (0≤n∧n < es.length)&&p.fits (ab es n.toNat),.v (.ep (p.enc (p.bh (ab es n.toNat))).cells))
    | none=>some (decide (0≤n∧n < es.length),.v (.ep (ab es n.toNat).cells))
   else none
  | .sl _ esz _ _ _,.v (.kM id off sz len _)=>if Nat.beq sz esz then some (decide (0≤n∧n < len),.v (.ptr id (off+n.toNat * sz))) else none
  | .sl _ esz _ _ _,.v (.cR id f off sz len)=>if Nat.beq sz esz then some (decide (0≤n∧n < len),.v (.gp id f (off+n.toNat) 0 sz t)) else none
  | .arr len esz _,.v (.ep cs)=>match E.RN t with
   | some p=>if Nat.beq esz 1&&Nat.ble len cs.length then some (decide (0≤n∧n < len)&&p.fits (ab cs n.toNat),.v (.ep [p.enc (p.bh (ab cs n.toNat))])) else none
   | none=>some (decide (0≤n∧n < len),.v (.ep (ft (n.toNat * esz) cs)))
  | .arr len esz _,p=>match Gn (n.toNat * esz) p with
   | some q=>some (decide (0≤n∧n < len),q)
   | none=>none
  | _,_=>none
 | _,_=>none
def qp (E:Env) (t:TypeId) (x:SV) (j:Nat):Option SV:=
 match E.ti t with
 | some i=>match i.k with
  | .st fs=>match nth fs j with
   | some (o,sz,_)=>if Nat.ble 1 sz then Gn o x else none
   | none=>none
  | _=>none
 | none=>none
def Ex (E:Env) (t:TypeId) (x:SV) (j:Nat):Option AV:=
 match E.ti t,x with
 | some i,.v (.agg cs)=>match i.k with
  | .st fs=>match nth fs j with
   | some (o,sz,ag)=>if ag then (match Gm o sz cs with | some l=>s7 true l | none=>none) else (match Gm o 1 cs with | some l=>s7 false l | none=>none)
   | none=>none
  | _=>none
 | _,_=>none
def Ey (E:Env) (t:TypeId) (x ix:SV):Option (Bool × AV):=
 match E.ti t,x,ix with
 | some i,.v (.str l),.v (.int _ n)=>match i.k with
  | .str=>some (decide (0≤n∧n < l.length),.int .u8 (l.getD n.toNat 0).toNat)
  | _=>none
 | some i,.v (.agg cs),.v (.int _ n)=>match i.k with
  | .arr len esz ag=>match (if ag then (match Gm (n.toNat * esz) esz cs with | some l=>s7 true l | none=>none) else (match Gm (n.toNat * esz) 1 cs with | some l=>s7 false l | none=>none)) with
   | some v=>some (decide (0≤n∧n < len),v)
   | none=>none
  | _=>none
 | _,_,_=>none
def AR (y:Nat):SV→Option (Bool × Nat)
 | .v (.int _ n)=>some (decide (0≤n∧n≤y),n.toNat)
 | _=>none
def df {α:Type} (lo hi:Nat) (l:List α):List α:=(l.take hi).drop lo
def mI (E:Env) (ae:bp):Option Operand→Option (Option SV)
 | none=>some none
 | some x=>some (some (bS E ae x))
def Ez (len:Nat) (lo hi:Option SV):Option (Bool × Nat × Nat):=
 match (match hi with | none=>some (true,len) | some h=>AR len h) with
 | none=>none
 | some (c1,h)=>match (match lo with | none=>some (true,0) | some l=>AR h l) with
  | none=>none
  | some (c2,l)=>some (c1&&c2,l,h)
def Wx (agg:Bool) (l:List AV):AV:=match agg with
 | true=>.agg l
 | false=>dT l
def gK (agg:Bool) (sz:Nat):Nat→List AV→List AV
 | 0,_=>[]
 | n+1,cs=>Wx agg (cs.take sz) :: gK agg sz n (cs.drop sz)
def EA (ag:Bool) (e:AV):Bool:=e.aV&&(ag || e.one)&&e.closed
def AS (E:Env) (t:TypeId) (x:SV) (lo hi:Option SV) (mx:Option Operand):Option (Bool × AV):=
 match E.ti t,mx with
 | some i,none=>match i.k,x with
  | .str,.v (.str l)=>match Ez l.length lo hi with
   | some (c,a,b)=>some (c,.str (df a b l))
   | none=>none
  | .sl _ esz _ _ _,.v (.list k sz es)=>
   if Nat.beq sz esz || es.isEmpty then
    match Ez es.length lo hi with
    | some (c,a,b)=>some (c,.list (match k with | .nil=>.nil | .full=>(match hi with | none=>.full | some _=>.gr) | _=>.gr) esz (df a b es))
    | none=>none
   else none
  | .sl _ esz _ _ _,.v (.kM id off sz len cap)=>
   if Nat.beq sz esz then
    match Ez len lo hi with
    | some (c,a,b)=>some (c,.kM id (bif Nat.beq cap a then off else off+a * sz) sz (b - a) (cap - a))
    | none=>none
   else none
  | .sl _ esz _ _ _,.v (.cR id f off sz len)=>
   if Nat.beq sz esz then
    match Ez len lo hi with
    | some (c,a,b)=>some (c,.cR id f (off+a) sz (b - a))
    | none=>none
   else none
  | .arr len esz ag,.v (.ep cs)=>match lo,hi with
   | none,none=>if Nat.ble (len * esz) cs.length&&Nat.ble 1 esz&&(ag || Nat.beq esz 1)&&allFit (EA ag) (gK ag esz len cs) then some (true,.list .full esz (gK ag esz len cs)) else none
   | _,_=>none
  | _,_=>none
 | _,_=>none
def Jy (G:List GO) (id n:Nat) (f sz:Nat) (e:TypeId):List GO:=ap G id (.tok (f+n) sz e)
def za (fs:List Nat) (j n:Nat):List Nat:=bif Nat.beq j fs.length then fs++[n] else ap fs j n
def EB (fs:List Nat) (j n:Nat):Bool:=decide (nth fs j=some n) || (Nat.beq j fs.length&&Nat.beq n 0)
def fQ (G:List GO) (elem esz bw:Nat) (x:AV) (ys:List AV):Option (Bool × AV × List GO):=
 match x,ys with
 | .list k sz es,[]=>match k with
  | .nil=>some (true,.list .nil sz es,G)
  | k=>some (true,.list k sz es,G)
 | .list k sz es,y :: ys=>
  match k with
  | .nil=>some (decide ((es.length+(y :: ys).length) * bw≤140737488355328),.list (.own G.length) esz (es++(y :: ys)),G++[.tok (es.length+(y :: ys).length) esz elem])
  | .full=>if Nat.beq sz esz then some (decide ((es.length+(y :: ys).length) * bw≤140737488355328),.list (.own G.length) esz (es++(y :: ys)),G++[.tok (es.length+(y :: ys).length) esz elem]) else none
  | .own id=>match nth G id with
   | some (.tok f bK e')=>if Nat.beq bK esz&&Nat.beq e' elem&&Nat.beq sz esz then
     some (decide (f=es.length)&&decide ((es.length+(y :: ys).length) * bw≤140737488355328),.list (.own id) esz (es++(y :: ys)),Jy G id (y :: ys).length f esz elem) else none
   | _=>none
  | .aP id j=>match nth G id with
   | some (.aP fs bK e')=>if Nat.beq bK esz&&Nat.beq e' elem&&Nat.beq sz esz then
     some (EB fs j es.length&&decide ((es.length+(y :: ys).length) * bw≤140737488355328),.list (.aP id j) esz (es++(y :: ys)),ap G id (.aP (za fs j (es.length+(y :: ys).length)) esz elem)) else none
   | _=>none
  | .gr=>none
 | .cR id f off sz len,[]=>some (true,.cR id f off sz len,G)
 | .cR id f off sz len,y :: ys=>match nth G id with
  | some (.a7 es bK e')=>if Nat.beq bK esz&&Nat.beq e' elem&&Nat.beq sz esz then
    some (decide (f=es.length)&&decide (off=0)&&decide (len=f)&&decide ((es.length+(y :: ys).length) * bw≤140737488355328),.cR id (es.length+(y :: ys).length) 0 esz (es.length+(y :: ys).length),ap G id (.a7 (es++(y :: ys)) esz elem)) else none
  | _=>none
 | _,_=>none
def rA (b:UInt8):AV:=.int .u8 b.toNat
def qq (es:List AV):List UInt8:=es.map fun a=>UInt8.ofNat a.qn.toNat
def v7 (es:List AV):List UInt8:=es.flatMap fun a=>(Utf8.encode a.qn).data.toList
def HV:AV→List AV→Option AV
 | x,[]=>some x
 | .int k x,.int k' y :: l=>if k=k' then HV (.int k (if y > x then y else x)) l else none
 | _,_=>none
def EC:AV→List AV→Option AV
 | x,[]=>some x
 | .int k x,.int k' y :: l=>if k=k' then EC (.int k (if y < x then y else x)) l else none
 | .str x,.str y :: l=>EC (.str (bif Op.bytesLess x y || x == y then x else y)) l
 | _,_=>none
def aq:List AV→List AV
 | []=>[]
 | e :: es=>e.cells++aq es
def rB (s:St) (esz:Nat) (d x:AV):Option (Nat × List GO):=
 match d with
 | .kM id off sz len _=>match nth s.G id with
  | some (.row cs el)=>
   if Nat.beq sz esz then
    match x with
    | .list _ bK es=>if Nat.beq bK esz || es.isEmpty then
      let n:=Nat.min es.length len
      let l:=aq (es.take n)
      if Nat.ble (off+l.length) cs.length then some (n,ap s.G id (.row (bc cs off l) el)) else none
     else none
    | .str bs=>
      if Nat.beq esz 1&&Nat.ble (off+(bs.take (Nat.min bs.length len)).length) cs.length then some (Nat.min bs.length len,ap s.G id (.row (bc cs off ((bs.take (Nat.min bs.length len)).map rA)) el)) else none
    | .kM jF ED bK EE _=>match nth s.G jF with
     | some (.row eV _)=>
      let n:=Nat.min EE len
      match Gm ED (n * esz) eV with
      | some l=>if Nat.beq bK esz&&Nat.ble (off+l.length) cs.length then some (n,ap s.G id (.row (bc cs off l) el)) else none
      | none=>none
     | _=>none
    | _=>none
   else none
  | _=>none
 | .cR id f off sz len=>match nth s.G id,x with
  | some (.a7 es bK el),.list _ szx xs=>if Nat.beq sz esz&&Nat.beq bK sz&&(Nat.beq szx esz || xs.isEmpty)&&Nat.ble f es.length&&Nat.ble es.length f&&Nat.ble (off+Nat.min xs.length len) es.length then
    some (Nat.min xs.length len,ap s.G id (.a7 (bc es off (xs.take (Nat.min xs.length len))) bK el)) else none
  | _,_=>none
 | _=>none
def bZ (E:Env) (s:St) (dst:Option Tmp) (b:Builtin) (args:List AV) (tys:List TypeId):Option (Bool × St):=
 match b,args with
 | .len,[x]=>match tys with
  | t :: _=>match E.ti t with
   | some i=>match i.k,x with
    | .str,.str l=>some (true,s.put dst (.v (.int .i64 l.length)))
    | .sl ..,.list _ _ es=>some (true,s.put dst (.v (.int .i64 es.length)))
    | .sl ..,.kM _ _ _ len _=>some (true,s.put dst (.v (.int .i64 len)))
    | .sl ..,.cR _ _ _ _ len=>some (true,s.put dst (.v (.int .i64 len)))
    | .arr n _ _,_=>some (true,s.put dst (.v (.int .i64 n)))
    | .map ..,.jS=>some (true,s.put dst (.v (.int .i64 0)))
    | .map ..,.map id=>match nth s.G id with
     | some (.map es)=>some (true,s.put dst (.v (.int .i64 es.length)))
     | _=>none
    | _,_=>none
   | none=>none
  | _=>none
 | .append,[x,.list _ sz ys]=>match tys with
  | [t,u]=>match E.ti t with
   | some i=>match i.k with
    | .sl elem esz _ bw (some z)=>
     if (Nat.beq sz esz || ys.isEmpty)&&Nat.beq t u&&Nat.ble 1 esz&&Nat.ble 1 bw&&Nat.beq z.cells.length esz&&z.aV then
      match fQ s.G elem esz bw x ys with
      | some (c,v,G')=>some (c,(s.bY G').put dst (.v v))
      | none=>none
     else none
    | _=>none
   | none=>none
  | _=>none
 | .append,[x,.str bs]=>match tys with
  | [t,u]=>match E.ti t,E.ti u with
   | some i,some j=>match i.k,j.k with
    | .sl elem esz _ bw (some z),.str=>
     if Nat.beq esz 1&&Nat.ble 1 bw&&Nat.beq z.cells.length esz&&z.aV then
      match fQ s.G elem esz bw x (bs.map rA) with
      | some (c,v,G')=>some (c,(s.bY G').put dst (.v v))
      | none=>none
     else none
    | _,_=>none
   | _,_=>none
  | _=>none
 | .copy,[d,x]=>match tys with
  | t :: _=>match E.ti t with
   | some i=>match i.k with
    | .sl _ esz _ _ _=>match rB s esz d x with
     | some (n,G')=>some (true,(s.bY G').put dst (.v (.int .i64 n)))
     | none=>none
    | _=>none
   | none=>none
  | _=>none
 | .clear,[x]=>match dst,tys,x with
  | none,[t],.cR id f off sz len=>match E.ti t,nth s.G id with
   | some i,some (.a7 es bK el)=>match i.k with
    | .sl elem esz _ _ (some z)=>if Nat.beq sz esz&&Nat.beq bK sz&&Nat.beq el elem&&Nat.beq z.cells.length esz&&z.aV&&z.closed then
      some (decide (f=es.length)&&decide (off+len≤es.length),s.bY (ap s.G id (.a7 (bc es off (List.replicate len z)) bK el))) else none
    | _=>none
   | _,_=>none
  | _,_,_=>none
 | .max,x :: l=>match HV x l with
  | some v=>some (true,s.put dst (.v v))
  | none=>none
 | .min,x :: l=>match EC x l with
  | some v=>some (true,s.put dst (.v v))
  | none=>none
 | _,_=>none
def EK.plain:EK→Bool
 | .bool | .int | .str=>true
 | .st _=>true
 | _=>false
def EK.wide:EK→Bool
 | .st _=>true
 | _=>false
def ib:AV→Bool
 | .bool _=>true
 | .int _ _=>true
 | .str _=>true
 | _=>false
def rC:AV→AV→Bool
 | .bool a,.bool b=>a == b
 | .int k a,.int l b=>decide (k=l)&&a == b
 | .str a,.str b=>a == b
 | _,_=>false
def n9:List AV→List AV→Bool
 | [],[]=>true
 | a :: l,b :: r=>rC a b&&n9 l r
 | _,_=>false
def mJ:AV→AV→Bool
 | .agg xs,.agg ys=>n9 xs ys
 | _,_=>false
def El (e:EK) (a b:AV):Option Bool:=match kN e a b with
 | some true=>bif e.wide&&!mJ a b then none else some true
 | r=>r
def iE (e:EK) (k:AV):List (AV × AV)→Option (Option AV)
 | []=>some none
 | (k',v) :: l=>match El e k k' with
  | some true=>some (some v)
  | some false=>iE e k l
  | none=>none
def s9 (e:EK) (k v:AV):List (AV × AV)→Option (List (AV × AV))
 | []=>some [(k,v)]
 | (k',v') :: l=>match El e k k' with
  | some true=>some ((k,v) :: l)
  | some false=>match s9 e k v l with
   | some r=>some ((k',v') :: r)
   | none=>none
  | none=>none
def ic:EK→AV→Bool
 | .bool,.bool _=>true
 | .int,.int _ _=>true
 | .str,.str _=>true
 | .st fs,.agg cs=>cs.all ib&&(s8 fs cs cs).isSome
 | _,_=>false
def mapOf (s:St):SV→Option (List (AV × AV))
 | .v .jS=>some []
 | .v (.map id)=>match nth s.G id with
  | some (.map es)=>some es
  | _=>none
 | _=>none
def lj (G:List GO) (id:Nat):List Nat:=match nth G id with
 | some (.aP fs _ _)=>fs
 | _=>[]
def Cl (E:Env) (G:List GO) (t:TypeId) (z:AV):AV:=match E.Zt t,z with
 | some (.aP e sz _),.list .nil _ []=>match jf G sz e 0 with
  | some id=>.list (.aP id (lj G id).length) sz []
  | none=>z
 | _,_=>z
def jj (E:Env) (s:St) (t:TypeId) (m k:SV):Option (AV × Bool):=match E.ti t,mapOf s m,k with
 | some i,some es,.v k=>match i.k with
  | .map kt _ (some z)=>match E.ti kt with
   | some j=>if j.ek.plain&&ic j.ek k then match iE j.ek k es with
     | some (some v)=>some (v,true)
     | some none=>some (z,false)
     | none=>none
    else none
   | none=>none
  | _=>none
 | _,_,_=>none
def kS (E:Env) (s:St) (t:TypeId) (m k:SV):Option (AV × Bool):=match jj E s t m k with
 | some (v,false)=>some (Cl E s.G t v,false)
 | r=>r
def fR (E:Env) (s:St) (t:TypeId) (m k x:SV):Option St:=match E.ti t,m,k,x with
 | some i,.v (.map id),.v k,.v x=>match i.k,nth s.G id with
  | .map kt _ _,some (.map es)=>match E.ti kt with
   | some j=>if j.ek.plain&&ic j.ek k then match s9 j.ek k x es with
     | some es'=>some (s.bY (ap s.G id (.map es')))
     | none=>none
    else none
   | none=>none
  | _,_=>none
 | _,_,_,_=>none
def pg (l:List UInt8) (pos:Nat):Nat × Nat:=
 bif Nat.blt (l.getD pos 0).toNat 128 then ((l.getD pos 0).toNat,1) else Utf8.decode ⟨⟨l⟩⟩ pos
def nG (s:St) (dst:Option Tmp) (x:SV):Option St:=match x with
 | .v (.ptr id 0)=>match nth s.G id with
  | some (.gf l pos)=>bif Nat.blt pos l.length then
    match pg l pos with
    | (c,n)=>some ((s.bY (ap s.G id (.gf l (pos+n)))).put dst (.v (.bH [.bool true,.int .i64 pos,.int .i32 c])))
   else some (s.put dst (.v (.bH [.bool false])))
  | _=>none
 | _=>none
def zb (es:List (AV × AV)) (i:Nat):AV × AV:=match nth es i with
 | some e=>e
 | none=>(gJ,gJ)
def SL (E:Env) (kt:TypeId):Option aA:=match E.RN kt with
 | some p=>some p
 | none=>match E.ti kt with
  | some i=>match i.k with
   | .int k=>some (.int k)
   | .str=>some .str
   | _=>none
  | none=>none
def rD (E:Env) (t:TypeId) (e:AV × AV):Bool × AV × AV:=match E.ti t with
 | some i=>match i.k with
  | .map kt _ _=>match E.RN t,SL E kt with
   | some pv,some pk=>(pk.fits e.1&&pv.fits e.2,pk.enc (pk.bh e.1),pv.enc (pv.bh e.2))
   | _,_=>(true,e.1,e.2)
  | _=>(true,e.1,e.2)
 | none=>(true,e.1,e.2)
def zH (E:Env) (s:St) (dst:Option Tmp) (x:SV):Option (Bool × St × List Nat × (Nat→Bool × St)):=match x with
 | .v (.ptr id 0)=>match nth s.G id with
  | some (.nZ qm n left _ t)=>match nth s.G qm with
   | some (.map es)=>some (decide (es.length=n),s.put dst (.v (.bH [.bool false])),left,
     fun i=>((rD E t (zb es i)).1,(s.bY (ap s.G id (.nZ qm n (left.erase i) (some i) t))).put dst (.v (.bH [.bool true,(rD E t (zb es i)).2.1,(rD E t (zb es i)).2.2]))))
   | _=>none
  | _=>none
 | _=>none
def ta (E:Env) (s:St) (o:Oper):Option (Bool × St × List Nat × (Nat→Bool × St)):=match o.op with
 | .next x false=>zH E s o.dst (bS E s.ae x)
 | _=>none
def eqO (E:Env) (op:BinOp) (t:TypeId) (a b:AV):Option Bool:=match op,E.ti t with
 | .eql,some i=>kN i.ek a b
 | .neq,some i=>match kN i.ek a b with
  | some r=>some (!r)
  | none=>none
 | _,_=>none
def jk (E:Env) (f:FuncId) (s:St) (o:Oper):Option St:=match o.op with
 | .buildSlice t len parts=>match o.dst with
  | some d=>if E.Ch f d then match E.ti t with
    | some i=>match i.k,bV E s t len parts.toList with
     | .sl elem _ _ _ _,some (.list _ esz es)=>some ((s.dP (.row (aq es) elem)).put (some d) (.v (.kM s.G.length 0 esz len len)))
     | _,_=>none
    | none=>none
   else if E.Ch f (d+196608) then match E.ti t with
    | some i=>match i.k,bV E s t len parts.toList with
     | .sl elem _ _ _ _,some (.list _ esz es)=>if Nat.ble len 65536 then some ((s.dP (.a7 es esz elem)).put (some d) (.v (.cR s.G.length len 0 esz len))) else none
     | _,_=>none
    | none=>none
   else if E.Ch f (d+65536) then match E.ti t with
    | some i=>match i.k,bV E s t len parts.toList with
     | .sl elem _ _ _ _,some (.list _ esz es)=>if Nat.ble len 65536 then some ((s.dP (.tok len esz elem)).put (some d) (.v (.list (.own s.G.length) esz es))) else none
     | _,_=>none
    | none=>none
   else none
  | none=>none
 | _=>none
def zI (wk:Bool) (es:List AV):List AV:=match wk with
 | true=>es.map AV.fx
 | false=>es
def lQ (wk:Bool):List AV→List GO→Bool × List AV × List GO
 | [],G=>(true,[],G)
 | .cR id f 0 sz len :: l,G=>match nth G id with
  | some (.a7 es bK _)=>match lQ wk l (ap G id .dead) with
   | (c,r,G')=>(decide (f=es.length)&&decide (len=es.length)&&Nat.beq sz bK&&aC (zI wk es)&&c,.list .gr sz (zI wk es) :: r,G')
  | _=>match lQ wk l G with
   | (_,r,G')=>(false,r,G')
 | a :: l,G=>match lQ wk l G with
  | (c,r,G')=>(c,a :: r,G')
def ph (cut wk:Bool) (s:St) (t:Tmp):Option (Bool × St):=match lk s.ae t with
 | .v (.cR id f off sz len)=>match nth s.G id with
  | some (.a7 es bK _)=>if Nat.beq off 0&&Nat.beq sz bK then
    some (decide (f=es.length)&&(bif cut then decide (len≤es.length) else decide (len=es.length))&&aC (zI wk es),⟨.put t (.v (.list .gr sz (zI wk (bif cut then es.take len else es)))) :: s.ae,s.boxes,ap s.G id .dead,s.marks,s.ro,s.n⟩) else none
  | _=>none
 | .v (.ptr id 0)=>match nth s.G id with
  | some (.row cs _)=>some (aC cs,⟨.put t (.v (.ep cs)) :: s.ae,s.boxes,ap s.G id .dead,s.marks,s.ro,s.n⟩)
  | _=>none
 | .v (.agg cs)=>match lQ wk cs s.G with
  | (c,eV,G')=>some (c,⟨.put t (.v (.agg eV)) :: s.ae,s.boxes,G',s.marks,s.ro,s.n⟩)
 | _=>none
def gC (cut wk:Bool):List Operand→St→Bool × St
 | [],s=>(true,s)
 | .tmp t :: l,s=>match ph cut wk s t with
  | some (c,s')=>match gC cut wk l s' with
   | (c',s2)=>(c&&c',s2)
  | none=>gC cut wk l s
 | _ :: l,s=>gC cut wk l s
def HW (E:Env) (f:FuncId) (s:St) (o:Oper):Option (Bool × St):=match o.dst with
 | some d=>if E.Ch f (d+262144) then some (gC (E.Ch f (d+393216)) (E.Ch f (d+458752)) o.op.operands.toList s) else none
 | none=>none
def lR (E:Env) (s:St) (a b:TypeId) (x:SV):Option (Bool × AV):=
 match E.ti a,E.ti b,x with
 | some i,some j,.v x=>match j.k,x with
  | .int k,.int _ n=>some (true,.int k (k.wrap n))
  | .str,.list _ sz es=>match i.k with
   | .sl elem 1 _ _ _=>match E.ti elem with
    | some e=>match e.k with
     | .int .u8=>some ((Nat.beq sz 1 || es.isEmpty)&&allFit (aA.fits (.int .u8)) es,.str (qq es))
     | .int .i32=>some ((Nat.beq sz 1 || es.isEmpty)&&allFit (aA.fits (.int .i32)) es,.str (v7 es))
     | _=>none
    | none=>none
   | _=>none
  | .str,.kM id off 1 len _=>match i.k,nth s.G id with
   | .sl elem 1 _ _ _,some (.row cs _)=>match E.ti elem with
    | some e=>match e.k with
     | .int .u8=>some (Nat.ble (off+len) cs.length&&allFit (aA.fits (.int .u8)) (df off (off+len) cs),.str (qq (df off (off+len) cs)))
     | _=>none
    | none=>none
   | _,_=>none
  | _,_=>none
 | _,_,_=>none
def HX (id sz:Nat):List AV→List Nat→Option (List AV × List Nat)
 | [],fs=>some ([],fs)
 | .list .nil _ [] :: l,fs=>match HX id sz l (fs++[0]) with
  | some (r,AT)=>some (.list (.aP id fs.length) sz [] :: r,AT)
  | none=>none
 | .list .full bK es :: l,fs=>if Nat.beq sz bK then match HX id sz l (fs++[es.length]) with
   | some (r,AT)=>some (.list (.aP id fs.length) sz es :: r,AT)
   | none=>none
  else none
 | _ :: _,_=>none
def yT (e:EK) (k k':AV):Bool:=match El e k k' with
 | some b=>b
 | none=>false
def cH (e:EK) (k:AV):List (AV × AV)→Bool
 | []=>true
 | (k',_) :: l=>(El e k k').isSome&&cH e k l
def dz (e:EK) (k:AV):List (AV × AV)→Option AV
 | []=>none
 | (k',v) :: l=>bif yT e k k' then some v else dz e k l
def er (e:EK) (k v:AV):List (AV × AV)→List (AV × AV)
 | []=>[(k,v)]
 | (k',v') :: l=>bif yT e k k' then (k,v) :: l else (k',v') :: er e k v l
def bf (e:EK) (k z:AV) (es:List (AV × AV)):AV:=(dz e k es).getD z
def ll (e:EK) (k:AV):List (AV × AV)→Nat
 | []=>0
 | (k',_) :: l=>bif yT e k k' then 0 else ll e k l+1
def oa:List (AV × AV)→Nat→AV→List (AV × AV)
 | [],_,_=>[]
 | (k,_) :: l,0,x=>(k,x) :: l
 | e :: l,n+1,x=>e :: oa l n x
def tc (E:Env) (s:St) (x:SV):Option (Bool × AV):=match x with
 | .v (.ptr id 0)=>match nth s.G id with
  | some (.nZ qm n _ (some i) t)=>match nth s.G qm with
   | some (.map es)=>some (decide (es.length=n)&&decide (i < n)&&(rD E t (zb es i)).1,.bH [(rD E t (zb es i)).2.1,(rD E t (zb es i)).2.2])
   | _=>none
  | _=>none
 | _=>none
def gS (E:Env) (s:St) (t:TypeId) (m k:SV):Option (Bool × AV × St):=match E.ti t,m,k with
 | some i,.v (.map id),.v k=>match i.k,nth s.G id with
  | .map kt _ (some z),some (.map es)=>match E.ti kt with
   | some j=>if j.ek.plain&&ic j.ek k then
     some (cH j.ek k es,.bH [bf j.ek k z es,.int .i64 (ll j.ek k es:Nat)],s.bY (ap s.G id (.map (er j.ek k (bf j.ek k z es) es)))) else none
   | none=>none
  | _,_=>none
 | _,_,_=>none
def eM (s:St) (m st x:SV):Option (Bool × St):=match m,st,x with
 | .v (.map id),.v (.int .i64 n),.v v=>match nth s.G id with
  | some (.map es)=>some (decide (0≤n)&&decide (n.toNat < es.length),s.bY (ap s.G id (.map (oa es n.toNat v))))
  | _=>none
 | _,_,_=>none
def ig (E:Env) (f:FuncId) (s:St) (o:Oper):Option (Bool × St):=match o.dst with
 | some d=>if E.Ch f (d+524288) then match o.op with
   | .call { callee:=.builtin .append,args,argTypes }=>match mC E s.ae args.toList,argTypes.toList with
    | some [.cR id g off sz len,.list k szy (y :: ys)],[t,u]=>match E.ti t with
     | some i=>match i.k with
      | .sl elem esz _ bw (some z)=>match E.ti elem with
       | some j=>match j.k with
        | .sl e2 n5 _ _ _=>match jf s.G n5 e2 0 with
         | some kK=>match HX kK n5 (y :: ys) (lj s.G kK),nth s.G id with
          | some (HY,AT),some (.a7 es bK e')=>
           if Nat.beq szy esz&&Nat.beq bK esz&&Nat.beq e' elem&&Nat.beq sz esz&&Nat.beq t u&&Nat.ble 1 esz&&Nat.ble 1 bw&&Nat.beq z.cells.length esz&&z.aV then
            some (decide (g=es.length)&&decide (off=0)&&decide (len=g)&&decide ((es.length+(y :: ys).length) * bw≤140737488355328),
             (s.bY (ap (ap s.G kK (.aP AT n5 e2)) id (.a7 (es++HY) esz elem))).put o.dst (.v (.cR id (es.length+(y :: ys).length) 0 esz (es.length+(y :: ys).length))))
           else none
          | _,_=>none
         | none=>none
        | _=>none
       | none=>none
      | _=>none
     | none=>none
    | _,_=>none
   | _=>none
  else none
 | none=>none
def tX (E:Env) (f:FuncId) (s:St) (o:Oper):Option (Bool × St):=match o.dst with
 | some d=>if E.Ch f (d+524288) then match o.op with
   | .lookup t m k ok=>match E.Zt t,E.ti t,bS E s.ae m,bS E s.ae k with
    | some (.aP e sz p),some i,.v (.map id),.v k=>match i.k,nth s.G id with
     | .map kt _ (some (.list .nil _ [])),some (.map es)=>match E.ti kt,jf s.G sz e 0 with
      | some j,some kK=>if j.ek.plain&&ic j.ek k then
        some (cH j.ek k es&&(aA.aP kK sz p).fits (bf j.ek k (.list (.aP kK (lj s.G kK).length) sz []) es),
         (s.bY (ap s.G kK (.aP (lj s.G kK++[0]) sz e))).put o.dst (.v (if ok then .bH [(aA.aP kK sz p).enc ((aA.aP kK sz p).bh (bf j.ek k (.list (.aP kK (lj s.G kK).length) sz []) es)),.bool (dz j.ek k es).isSome]
          else (aA.aP kK sz p).enc ((aA.aP kK sz p).bh (bf j.ek k (.list (.aP kK (lj s.G kK).length) sz []) es)))))
       else none
      | _,_=>none
     | _,_=>none
    | _,_,_,_=>none
   | _=>none
  else none
 | none=>none
def aaG (E:Env) (f:FuncId) (d:Option Tmp):Bool:=match d with
 | some d=>E.Ch f (d+196608)
 | none=>false
def ar (E:Env) (f:FuncId) (s:St) (o:Oper):Option (Bool × St):=
 match o.op with
 | .move x=>match bS E s.ae x with
  | .v a=>some (true,s.put o.dst (.v a))
  | .lp k off=>some (true,s.put o.dst (.lp k off))
  | .none=>some (true,s.put o.dst .none)
 | .assign x=>match bS E s.ae x with
  | .v a=>some (true,s.put o.dst (.v a))
  | .lp k off=>some (true,s.put o.dst (.lp k off))
  | .none=>some (true,s.put o.dst .none)
 | .pick c a b=>match bS E s.ae c,bS E s.ae a,bS E s.ae b with
  | .v (.bool t),.v x,.v y=>some (true,s.put o.dst (.v (AQ t x y)))
  | _,_,_=>none
 | .alloc e=>match E.ti e with
  | some i=>match i.zero with
   | some z=>if z.aV then iI E f s o.dst e z.cells else none
   | none=>none
  | none=>none
 | .box t x=>match bS E s.ae x with
  | .v v=>if v.aV then iI E f s o.dst t v.cells else none
  | _=>none
 | .build t parts=>match mH E s t parts.toList with
  | some v=>some (true,s.put o.dst (.v v))
  | none=>none
 | .buildSlice t len parts=>match bV E s t len parts.toList with
  | some v=>some (true,s.put o.dst (.v v))
  | none=>none
 | .load t a=>match zG E s t (bS E s.ae a) with
  | some (c,v)=>some (c,s.put o.dst (.v v))
  | none=>none
 | .store t a x=>match o.dst,li E s t (bS E s.ae a) (bS E s.ae x) with
  | none,some (c,s')=>some (c,s')
  | _,_=>none
 | .binOp op t x y _=>match bS E s.ae x,bS E s.ae y with
  | .v a,.v b=>match Ci op a b with
   | some (c,v)=>some (c,s.put o.dst (.v v))
   | none=>match eqO E op t a b with
    | some r=>some (true,s.put o.dst (.v (.bool r)))
    | none=>none
  | _,_=>none
 | .unOp op _ x=>match op,bS E s.ae x with
  | .not,.v (.bool b)=>some (true,s.put o.dst (.v (.bool (!b))))
  | .neg,.v (.int k n)=>some (true,s.put o.dst (.v (.int k (k.wrap (0 - n)))))
  | _,_=>none
 | .convert a b x=>match lR E s a b (bS E s.ae x) with
  | some (c,v)=>some (c,s.put o.dst (.v v))
  | none=>none
 | .nilCheck x=>match bS E s.ae x with
  | .v (.ptr id off)=>some (true,s.put o.dst (.v (.ptr id off)))
  | .lp k off=>some (true,s.put o.dst (.lp k off))
  | _=>none
 | .makeFunc (.func g) first captured=>match mC E s.ae first.toList,mC E s.ae captured.toList with
  | some x,some y=>some (true,s.put o.dst (.v (.fn g x y)))
  | _,_=>none
 | .fieldAddr t x j=>match qp E t (bS E s.ae x) j with
  | some p=>some (true,s.put o.dst p)
  | none=>none
 | .field t x j=>match Ex E t (bS E s.ae x) j with
  | some v=>some (true,s.put o.dst (.v v))
  | none=>none
 | .indexAddr t x ix=>match qo E t (bS E s.ae x) (bS E s.ae ix) with
  | some (c,p)=>some (c,s.put o.dst p)
  | none=>none
 | .index t x ix=>match Ey E t (bS E s.ae x) (bS E s.ae ix) with
  | some (c,v)=>some (c,s.put o.dst (.v v))
  | none=>none
 | .slice t x lo hi mx=>match mI E s.ae lo,mI E s.ae hi with
  | some l,some h=>match AS E t (bS E s.ae x) l h mx with
   | some (c,v)=>some (c,s.put o.dst (.v v))
   | none=>none
  | _,_=>none
 | .extract x i=>match bS E s.ae x with
  | .v (.bH vs)=>match nth vs i with
   | some v=>some (true,s.put o.dst (.v v))
   | none=>none
  | _=>none
 | .makeSlice t l c=>match E.ti t,bS E s.ae l,bS E s.ae c with
  | some i,.v (.int _ n),.v (.int _ m)=>match i.k with
   | .sl elem esz _ bw (some z)=>
    if Nat.beq z.cells.length esz&&Nat.ble 1 esz&&z.aV then
     if aaG E f o.dst then (if z.closed then some (decide (0≤n∧n≤m∧m≤140737488355328∧m * bw≤140737488355328),
      (s.dP (.a7 (List.replicate n.toNat z) esz elem)).put o.dst (.v (.cR s.G.length n.toNat 0 esz n.toNat))) else none)
     else some (decide (0≤n∧n≤m∧m≤140737488355328∧m * bw≤140737488355328),
      (s.dP (.row (aq (List.replicate m.toNat z)) elem)).put o.dst (.v (.kM s.G.length 0 esz n.toNat m.toNat)))
    else none
   | _=>none
  | _,_,_=>none
 | .lookup t m k ok=>match kS E s t (bS E s.ae m) (bS E s.ae k) with
  | some (v,b)=>some (true,s.put o.dst (.v (if ok then .bH [v,.bool b] else v)))
  | none=>none
 | .mapUpdate t m k x=>match o.dst,fR E s t (bS E s.ae m) (bS E s.ae k) (bS E s.ae x) with
  | none,some s'=>some (true,s')
  | _,_=>none
 | .insert t m k x=>match o.dst,fR E s t (bS E s.ae m) (bS E s.ae k) (bS E s.ae x) with
  | none,some s'=>some (true,s')
  | _,_=>none
 | .entry x=>match tc E s (bS E s.ae x) with
  | some (c,v)=>some (c,s.put o.dst (.v v))
  | none=>none
 | .mapEntry t m k=>match gS E s t (bS E s.ae m) (bS E s.ae k) with
  | some (c,v,s')=>some (c,s'.put o.dst (.v v))
  | none=>none
 | .entryStore _ m st x=>match o.dst,eM s (bS E s.ae m) (bS E s.ae st) (bS E s.ae x) with
  | none,some (c,s')=>some (c,s')
  | _,_=>none
 | .range t x=>match E.ti t,bS E s.ae x with
  | some i,.v (.str l)=>match i.k with
   | .str=>some (true,(s.dP (.gf l 0)).put o.dst (.v (.ptr s.G.length 0)))
   | _=>none
  | some i,.v (.map id)=>match i.k,nth s.G id with
   | .map _ _ _,some (.map es)=>some (true,(s.dP (.nZ id es.length (List.range es.length) none t)).put o.dst (.v (.ptr s.G.length 0)))
   | _,_=>none
  | _,_=>none
 | .next x true=>match nG s o.dst (bS E s.ae x) with
  | some s'=>some (true,s')
  | none=>none
 | .makeMap _ none=>some (true,(s.dP (.map [])).put o.dst (.v (.map s.G.length)))
 | .call { callee:=.builtin b,args,argTypes }=>match ig E f s o with
  | some r=>some r
  | none=>match mC E s.ae args.toList with
   | some l=>bZ E s o.dst b l argTypes.toList
   | none=>none
 | _=>none
end Go.Am
namespace Go.Am
open Go
inductive TR where
 | bF
 | full (f:Nat)
 | tok (f b c:Nat)
inductive RO where
 | none
 | bF
 | b0 (b:Nat)
 | tok (f b c:Nat)
 | aP (ts:List TR)
def RO.has:RO→Nat→Prop
 | .none,_=>False
 | .bF,_=>False
 | .b0 b,x=>x=b
 | .tok _ b _,x=>x=b
 | .aP ts,x=>∃ j f c,nth ts j=some (.tok f x c)
def jl (sz:Nat) (es:List AV):Prop:=∀ e∈es,e.cells.length=sz∧e.aV=true∧e.closed=true
def dq (sz:Nat) (es:List AV):Prop:=∀ e∈es,e.cells.length=sz∧e.aV=true
theorem jl.g {sz:Nat} {es:List AV} (h:jl sz es):dq sz es:=fun e he=>⟨(h e he).1,(h e he).2.1⟩
structure aj where
 I:Nat→Nat→Prop
 obj:List RO
def RR (b o len cap:Nat):RO→Prop
 | .none=>True
 | .bF=>False
 | .b0 _=>False
 | .tok f b' c'=>len≤f∧(len=f→b=b'∧o=0∧cap=c')
 | .aP _=>False
def Nv (b o len cap:Nat):TR→Prop
 | .bF=>False
 | .full f=>len≤f∧(len=f→cap=len)
 | .tok f b' c'=>len≤f∧(len=f→b=b'∧o=0∧cap=c')
def Wy (b o len cap j:Nat):RO→Prop
 | .none=>True
 | .bF=>False
 | .b0 _=>False
 | .tok _ _ _=>False
 | .aP ts=>∃ t,nth ts j=some t∧Nv b o len cap t
def td:RO→Prop
 | .none=>True
 | .bF=>False
 | .b0 _=>False
 | .tok _ _ _=>False
 | .aP _=>True
def mK:RO→Prop
 | .none=>True
 | .bF=>True
 | .b0 _=>False
 | .tok f _ _=>1≤f
 | .aP _=>False
def HZ (b o f off sz cap:Nat):RO→Prop
 | .none=>True
 | .bF=>False
 | .b0 _=>False
 | .tok f' b' c'=>f≤f'∧(f=f'→b=b'∧off+cap=c'∧(o=off * sz∨cap=0))
 | .aP _=>False
def Jz (b o f i off sz:Nat):RO→Prop
 | .none=>True
 | .bF=>False
 | .b0 _=>False
 | .tok f' b' _=>f≤f'∧(f=f'→b=b'∧o=i * sz+off)
 | .aP _=>False
def AU (R:aj) (k:LK) (b o len cap:Nat):Prop:=match k with
 | .nil=>False
 | .full=>cap=len
 | .gr=>True
 | .own id=>∃ ro,nth R.obj id=some ro∧RR b o len cap ro
 | .aP id j=>∃ ro,nth R.obj id=some ro∧Wy b o len cap j ro
mutual
inductive Rel (R:aj) (w:World):AV→Value→Prop
 | bool (b:Bool):Rel R w (.bool b) (.bool b)
 | int (k:IntKind) (n:Int):Rel R w (.int k n) (.int k n)
 | str (l:List UInt8):Rel R w (.str l) (.string ⟨⟨l⟩⟩)
 | agg {cs:List AV} {vs:List Value} (h:aK R w cs vs) (h1:∀ v∈vs,v.oneCell'=true):Rel R w (.agg cs) (.agg ⟨vs⟩)
 | bH {cs:List AV} {vs:List Value} (h:aK R w cs vs):Rel R w (.bH cs) (.tuple ⟨vs⟩)
 | kL:Rel R w .kL (.pointer none)
 | ptr {id off b:Nat} (h:nth R.obj id=some (.b0 b)):Rel R w (.ptr id off) (.pointer (some ⟨b,off,none⟩))
 | ep {cs:List AV} {b o:Nat} (h:dU R w b o cs):Rel R w (.ep cs) (.pointer (some ⟨b,o,none⟩))
 | ke {sz:Nat}:Rel R w (.list .nil sz []) (.slice none 0 0)
 | iA {sz:Nat}:Rel R w (.list .gr sz []) (.slice none 0 0)
 | lS {sz:Nat} {a:Addr}:Rel R w (.list .gr sz []) (.slice (some a) 0 0)
 | mL {id sz:Nat} {ro:RO} (h:nth R.obj id=some ro) (ho:mK ro):Rel R w (.list (.own id) sz []) (.slice none 0 0)
 | lm {id j sz:Nat} {ro:RO} (h:nth R.obj id=some ro) (ho:td ro):Rel R w (.list (.aP id j) sz []) (.slice none 0 0)
 | list {k:LK} {sz:Nat} {es:List AV} {b o len cap:Nat} (h:fS R w b o sz es) (hl:len=es.length) (hc:len≤cap) (hk:AU R k b o len cap):Rel R w (.list k sz es) (.slice (some ⟨b,o,none⟩) len cap)
 | kM {id off sz len cap b:Nat} (h:nth R.obj id=some (.b0 b)) (hc:len≤cap):Rel R w (.kM id off sz len cap) (.slice (some ⟨b,off,none⟩) len cap)
 | jm {id sz:Nat} {ro:RO} (h:nth R.obj id=some ro) (ho:mK ro):Rel R w (.cR id 0 0 sz 0) (.slice none 0 0)
 | cR {id f off sz len cap b o:Nat} {ro:RO} (h:nth R.obj id=some ro) (ho:HZ b o f off sz cap ro) (hc:len≤cap):Rel R w (.cR id f off sz len) (.slice (some ⟨b,o,none⟩) len cap)
 | gp {id f i off sz b o:Nat} {t:TypeId} {ro:RO} (h:nth R.obj id=some ro) (ho:Jz b o f i off sz ro):Rel R w (.gp id f i off sz t) (.pointer (some ⟨b,o,none⟩))
 | jS:Rel R w .jS (.map none)
 | map {id b:Nat} (h:nth R.obj id=some (.b0 b)):Rel R w (.map id) (.map (some b))
 | cu:Rel R w .cu .nilFunc
 | fn {f:FuncId} {xs ys:List AV} {vs us:List Value} (h:aK R w xs vs) (h':aK R w ys us):Rel R w (.fn f xs ys) (.func (.func f) ⟨vs⟩ ⟨us⟩)
 | yield {id b:Nat} (h:nth R.obj id=some (.b0 b)):Rel R w (.yield id) (.func (.yield b) #[] #[])
 | nU:Rel R w .nU .nilIface
 | iface {t:TypeId} {v:AV} {c:Value} (h:Rel R w v c):Rel R w (.iface t v) (.iface t c)
inductive aK (R:aj) (w:World):List AV→List Value→Prop
 | nil:aK R w [] []
 | cons {a:AV} {c:Value} {l:List AV} {cs:List Value} (h:Rel R w a c) (t:aK R w l cs):aK R w (a :: l) (c :: cs)
inductive fS (R:aj) (w:World):Nat→Nat→Nat→List AV→Prop
 | nil {b o sz:Nat}:fS R w b o sz []
 | cons {b o sz:Nat} {e:AV} {es:List AV} (hl:e.cells.length=sz) (ht:e.aV=true) (hk:e.closed=true) (h:dU R w b o e.cells) (t:fS R w b (o+sz) sz es):fS R w b o sz (e :: es)
inductive dU (R:aj) (w:World):Nat→Nat→List AV→Prop
 | nil {b o:Nat}:dU R w b o []
 | cons {b o:Nat} {a:AV} {c:Value} {l:List AV} (hc:w.cell? ⟨b,o,none⟩=some c) (h1:c.oneCell'=true) (hi:R.I b o) (h:Rel R w a c) (t:dU R w b (o+1) l):dU R w b o (a :: l)
end
def ln:TR→TR→Prop
 | .bF,.bF=>True
 | .bF,.full _=>False
 | .bF,.tok f _ _=>1≤f
 | .full _,.bF=>False
 | .full f,.full f'=>f'=f
 | .full f,.tok f' _ _=>f < f'
 | .tok _ _ _,.bF=>False
 | .tok _ _ _,.full _=>False
 | .tok f b c,.tok f' b' c'=>f≤f'∧(f'=f→b'=b∧c'=c)
theorem ln.refl (t:TR):ln t t:=by cases t <;> simp [ln]
theorem ln.trans {a b c:TR} (h:ln a b) (k:ln b c):ln a c:=by
 cases a <;> cases b <;> cases c <;> simp only [ln] at * <;> omega
def te (ts VY:List TR):Prop:=∀ j t,nth ts j=some t→∃ t',nth VY j=some t'∧ln t t'
theorem te.refl (ts:List TR):te ts ts:=fun _ t h=>⟨t,h,ln.refl t⟩
theorem te.trans {a b c:List TR} (h:te a b) (k:te b c):te a c:=fun j t hj=>
 let ⟨_,h1,h2⟩:=h j t hj
 let ⟨t2,k1,k2⟩:=k j _ h1
 ⟨t2,k1,h2.trans k2⟩
def cm:RO→RO→Prop
 | .none,r=>r=.none
 | .b0 b,r=>r=.b0 b
 | .bF,.none=>True
 | .bF,.bF=>True
 | .bF,.b0 _=>False
 | .bF,.tok f _ _=>1≤f
 | .tok _ _ _,.none=>True
 | .tok _ _ _,.bF=>False
 | .tok _ _ _,.b0 _=>False
 | .tok f b c,.tok f' b' c'=>f≤f'∧(f'=f→b'=b∧c'=c)
 | .bF,.aP _=>False
 | .tok _ _ _,.aP _=>False
 | .aP _,.none=>True
 | .aP _,.bF=>False
 | .aP _,.b0 _=>False
 | .aP _,.tok _ _ _=>False
 | .aP ts,.aP VY=>te ts VY
theorem cm.refl (r:RO):cm r r:=by cases r <;> simp [cm,te.refl]
theorem cm.trans {a b c:RO} (h:cm a b) (k:cm b c):cm a c:=by
 cases a with
 | none=>simp only [cm] at h; subst h; exact k
 | b0 x=>simp only [cm] at h; subst h; exact k
 | bF=>
  cases b with
  | none=>simp only [cm] at k; subst k; trivial
  | bF=>exact k
  | b0 z=>exact h.elim
  | tok f' x' y'=>
   cases c with
   | none=>trivial
   | bF=>exact k.elim
   | b0 z=>exact k.elim
   | aP _=>exact k.elim
   | tok f'' x'' y''=>simp only [cm] at *; omega
  | aP _=>exact h.elim
 | tok f x y=>
  cases b with
  | none=>simp only [cm] at k; subst k; trivial
  | bF=>exact h.elim
  | b0 z=>exact h.elim
  | tok f' x' y'=>
   cases c with
   | none=>trivial
   | bF=>exact k.elim
   | b0 z=>exact k.elim
   | tok f'' x'' y''=>
    simp only [cm] at *
    refine ⟨Nat.le_trans h.1 k.1,fun e=>?_⟩
    obtain ⟨h1,h2⟩:=h; obtain ⟨k1,k2⟩:=k
    have e1:f'=f:=by omega
    have e2:f''=f':=by omega
    exact ⟨(k2 e2).1.trans (h2 e1).1,(k2 e2).2.trans (h2 e1).2⟩
   | aP _=>exact k.elim
  | aP _=>exact h.elim
 | aP ts=>
  cases b with
  | none=>simp only [cm] at k; subst k; trivial
  | bF=>exact h.elim
  | b0 z=>exact h.elim
  | tok f' x' y'=>exact h.elim
  | aP VY=>
   cases c with
   | none=>trivial
   | bF=>exact k.elim
   | b0 z=>exact k.elim
   | tok f' x' y'=>exact k.elim
   | aP ts''=>exact te.trans h k
def rE (r r':Loop):Prop:=r'.tmps=r.tmps∧r'.params=r.params∧r'.assign=r.assign∧r'.body=r.body∧r'.defers=r.defers
def gk (w w':World):Prop:=∀ (b:Nat) (r:Loop),w.heap[b]?=some (Obj.loop r)→∃ r',w'.heap[b]?=some (Obj.loop r')∧rE r r'
theorem gk.refl (w:World):gk w w:=fun _ r h=>⟨r,h,rfl,rfl,rfl,rfl,rfl⟩
theorem gk.trans {w w1 w2:World} (h:gk w w1) (k:gk w1 w2):gk w w2:=fun b r hb=>
 let ⟨_,h1,h2,h3,h4,h5,h6⟩:=h b r hb
 let ⟨r2,k1,k2,k3,k4,k5,k6⟩:=k b _ h1
 ⟨r2,k1,k2.trans h2,k3.trans h3,k4.trans h4,k5.trans h5,k6.trans h6⟩
theorem gk.old {w w':World} (h:∀ b,b < w.heap.size→w'.heap[b]?=w.heap[b]?):gk w w':=fun b r hb=>
 ⟨r,(h b (by
  rcases Nat.lt_or_ge b w.heap.size with bP | we
  ·exact bP
  ·rw [Array.getElem?_eq_none we] at hb; cases hb)).trans hb,rfl,rfl,rfl,rfl,rfl⟩
structure Ext (R:aj) (w:World) (R':aj) (w':World):Prop where
 I:∀ b o,R.I b o→R'.I b o
 cell:∀ b o,R.I b o→w'.cell? ⟨b,o,none⟩=w.cell? ⟨b,o,none⟩
 obj:∀ id ro,nth R.obj id=some ro→∃ lM,nth R'.obj id=some lM∧cm ro lM
 lp:gk w w'
theorem Ext.refl (R:aj) (w:World):Ext R w R w:=⟨fun _ _ h=>h,fun _ _ _=>rfl,fun _ ro h=>⟨ro,h,cm.refl ro⟩,gk.refl w⟩
theorem Ext.trans {R R' Nw:aj} {w w' RS:World} (h:Ext R w R' w') (k:Ext R' w' Nw RS):Ext R w Nw RS:=
 ⟨fun b o hi=>k.I b o (h.I b o hi),fun b o hi=>(k.cell b o (h.I b o hi)).trans (h.cell b o hi),fun id ro hr=>
  let ⟨_,h1,h2⟩:=h.obj id ro hr
  let ⟨r2,h3,h4⟩:=k.obj id _ h1
  ⟨r2,h3,h2.trans h4⟩,h.lp.trans k.lp⟩
theorem Ext.b0 {R R':aj} {w w':World} (h:Ext R w R' w') {id b:Nat} (hb:nth R.obj id=some (.b0 b)):nth R'.obj id=some (.b0 b):=by
 obtain ⟨r,h1,h2⟩:=h.obj id _ hb
 simp only [cm] at h2
 subst h2
 exact h1
theorem AU.mono {R R':aj} {w w':World} (e:Ext R w R' w') {k:LK} {b o len cap:Nat} (h:AU R k b o len cap):AU R' k b o len cap:=by
 cases k with
 | nil=>exact h
 | full=>exact h
 | gr=>trivial
 | own id=>
  obtain ⟨ro,h1,h2⟩:=h
  obtain ⟨lM,h3,h4⟩:=e.obj id ro h1
  refine ⟨lM,h3,?_⟩
  cases ro with
  | none=>simp only [cm] at h4; subst h4; trivial
  | bF=>exact h2.elim
  | b0 x=>exact h2.elim
  | tok f x y=>
   cases lM with
   | none=>trivial
   | bF=>exact h4.elim
   | b0 z=>exact h4.elim
   | tok f' x' y'=>
    simp only [cm,RR] at *
    refine ⟨by omega,fun e=>?_⟩
    have e1:f'=f:=by omega
    have h5:=h2.2 (by omega)
    have h6:=h4.2 e1
    exact ⟨h5.1.trans h6.1.symm,h5.2.1,h5.2.2.trans h6.2.symm⟩
   | aP _=>exact h4.elim
  | aP _=>exact h2.elim
 | aP id j=>
  obtain ⟨ro,h1,h2⟩:=h
  obtain ⟨lM,h3,h4⟩:=e.obj id ro h1
  refine ⟨lM,h3,?_⟩
  cases ro with
  | none=>simp only [cm] at h4; subst h4; trivial
  | bF=>exact h2.elim
  | b0 x=>exact h2.elim
  | tok _ _ _=>exact h2.elim
  | aP ts=>
   cases lM with
   | none=>trivial
   | bF=>exact h4.elim
   | b0 z=>exact h4.elim
   | tok _ _ _=>exact h4.elim
   | aP VY=>
    obtain ⟨t,k1,k2⟩:=h2
    obtain ⟨t',k3,k4⟩:=h4 j t k1
    refine ⟨t',k3,?_⟩
    cases t with
    | bF=>exact k2.elim
    | full f=>
     cases t' with
     | bF=>exact k4.elim
     | full f'=>simp only [ln,Nv] at *; subst k4; exact k2
     | tok f' x' y'=>simp only [ln,Nv] at *; exact ⟨by omega,fun e=>by omega⟩
    | tok f x y=>
     cases t' with
     | bF=>exact k4.elim
     | full f'=>exact k4.elim
     | tok f' x' y'=>
      simp only [ln,Nv] at *
      refine ⟨by omega,fun e=>?_⟩
      have e1:f'=f:=by omega
      have h5:=k2.2 (by omega)
      have h6:=k4.2 e1
      exact ⟨h5.1.trans h6.1.symm,h5.2.1,h5.2.2.trans h6.2.symm⟩
theorem mK.mono {ro lM:RO} (h:mK ro) (e:cm ro lM):mK lM:=by
 cases ro with
 | none=>simp only [cm] at e; subst e; trivial
 | bF=>cases lM <;> first | trivial | exact e.elim | exact e
 | b0 _=>exact h.elim
 | tok f x y=>
  cases lM with
  | none=>trivial
  | bF=>exact e.elim
  | b0 z=>exact e.elim
  | tok f' x' y'=>simp only [cm,mK] at *; omega
  | aP _=>exact e.elim
 | aP _=>exact h.elim
theorem td.mono {ro lM:RO} (h:td ro) (e:cm ro lM):td lM:=by
 cases ro with
 | none=>simp only [cm] at e; subst e; trivial
 | bF=>exact h.elim
 | b0 _=>exact h.elim
 | tok _ _ _=>exact h.elim
 | aP ts=>
  cases lM with
  | none=>trivial
  | bF=>exact e.elim
  | b0 z=>exact e.elim
  | tok _ _ _=>exact e.elim
  | aP VY=>trivial
theorem HZ.mono {b o f off sz cap:Nat} {ro lM:RO} (h:HZ b o f off sz cap ro) (e:cm ro lM):HZ b o f off sz cap lM:=by
 cases ro with
 | none=>simp only [cm] at e; subst e; trivial
 | bF=>exact h.elim
 | b0 _=>exact h.elim
 | tok f1 x y=>
  cases lM with
  | none=>trivial
  | bF=>exact e.elim
  | b0 z=>exact e.elim
  | tok f' x' y'=>
   simp only [cm,HZ] at *
   refine ⟨by omega,fun k=>?_⟩
   obtain ⟨e1,e2⟩:=e.2 (by omega)
   obtain ⟨h1,h2,h3⟩:=h.2 (by omega)
   exact ⟨h1.trans e1.symm,h2.trans e2.symm,h3⟩
  | aP _=>exact e.elim
 | aP _=>exact h.elim
theorem Jz.mono {b o f i off sz:Nat} {ro lM:RO} (h:Jz b o f i off sz ro) (e:cm ro lM):Jz b o f i off sz lM:=by
 cases ro with
 | none=>simp only [cm] at e; subst e; trivial
 | bF=>exact h.elim
 | b0 _=>exact h.elim
 | tok f1 x y=>
  cases lM with
  | none=>trivial
  | bF=>exact e.elim
  | b0 z=>exact e.elim
  | tok f' x' y'=>
   simp only [cm,Jz] at *
   refine ⟨by omega,fun k=>?_⟩
   obtain ⟨e1,e2⟩:=e.2 (by omega)
   obtain ⟨h1,h2⟩:=h.2 (by omega)
   exact ⟨h1.trans e1.symm,h2⟩
  | aP _=>exact e.elim
 | aP _=>exact h.elim
mutual
theorem Rel.mono {R R':aj} {w w':World} (e:Ext R w R' w'):∀ {a:AV} {c:Value},Rel R w a c→Rel R' w' a c
 | _,_,.bool b=>.bool b
 | _,_,.int k n=>.int k n
 | _,_,.str l=>.str l
 | _,_,.agg h h1=>.agg (h.mono e) h1
 | _,_,.bH h=>.bH (h.mono e)
 | _,_,.kL=>.kL
 | _,_,.ptr h=>.ptr (e.b0 h)
 | _,_,.ep h=>.ep (h.mono e)
 | _,_,.ke=>.ke
 | _,_,.iA=>.iA
 | _,_,.lS=>.lS
 | _,_,.mL h ho=>let ⟨_,h3,h4⟩:=e.obj _ _ h; .mL h3 (ho.mono h4)
 | _,_,.lm h ho=>let ⟨_,h3,h4⟩:=e.obj _ _ h; .lm h3 (ho.mono h4)
 | _,_,.list h hl hc hk=>.list (h.mono e) hl hc (hk.mono e)
 | _,_,.kM h hc=>.kM (e.b0 h) hc
 | _,_,.jm h ho=>let ⟨_,h3,h4⟩:=e.obj _ _ h; .jm h3 (ho.mono h4)
 | _,_,.cR h ho hc=>let ⟨_,h3,h4⟩:=e.obj _ _ h; .cR h3 (ho.mono h4) hc
 | _,_,.gp h ho=>let ⟨_,h3,h4⟩:=e.obj _ _ h; .gp h3 (ho.mono h4)
 | _,_,.jS=>.jS
 | _,_,.map h=>.map (e.b0 h)
 | _,_,.cu=>.cu
 | _,_,.fn h h'=>.fn (h.mono e) (h'.mono e)
 | _,_,.yield h=>.yield (e.b0 h)
 | _,_,.nU=>.nU
 | _,_,.iface h=>.iface (h.mono e)
theorem aK.mono {R R':aj} {w w':World} (e:Ext R w R' w'):∀ {l:List AV} {cs:List Value},aK R w l cs→aK R' w' l cs
 | _,_,.nil=>.nil
 | _,_,.cons h t=>.cons (h.mono e) (t.mono e)
theorem fS.mono {R R':aj} {w w':World} (e:Ext R w R' w'):∀ {b o sz:Nat} {l:List AV},fS R w b o sz l→fS R' w' b o sz l
 | _,_,_,_,.nil=>.nil
 | _,_,_,_,.cons hl ht hk h t=>.cons hl ht hk (h.mono e) (t.mono e)
theorem dU.mono {R R':aj} {w w':World} (e:Ext R w R' w'):∀ {b o:Nat} {l:List AV},dU R w b o l→dU R' w' b o l
 | _,_,_,.nil=>.nil
 | _,_,_,.cons hc h1 hi h t=>.cons ((e.cell _ _ hi).trans hc) h1 (e.I _ _ hi) (h.mono e) (t.mono e)
end
end Go.Am
namespace Go.Am
open Go
section lists
variable {α:Type}
theorem aY (l:List α) (n:Nat):nth l n=l[n]?:=by
 induction l generalizing n with
 | nil=>simp [nth]
 | cons a l ih=>cases n <;> simp [nth,ih]
theorem eh (l:List α) (n:Nat) (x:α):ap l n x=l.set n x:=by
 induction l generalizing n with
 | nil=>simp [ap]
 | cons a l ih=>cases n <;> simp [ap,ih]
theorem bI {l:List α} {n:Nat} {x:α} (h:nth l n=some x):n < l.length:=by
 rw [aY] at h
 exact (List.getElem?_eq_some_iff.1 h).1
theorem aI {l:List α} {n:Nat} {x y:α} (h:nth l n=some y):nth (ap l n x) n=some x:=by
 have:=bI h
 rw [aY,eh,List.getElem?_set_self this]
theorem bJ {l:List α} {n m:Nat} {x:α} (h:n≠m):nth (ap l n x) m=nth l m:=by
 rw [aY,eh,aY,List.getElem?_set_ne h]
theorem cV {l:List α} {n m:Nat} {x y:α} (h:nth (ap l n x) m=some y):(n=m∧y=x∧m < l.length)∨(n≠m∧nth l m=some y):=by
 by_cases e:n=m
 ·subst e
  have hl:=bI h
  rw [eh,List.length_set] at hl
  rw [aY,eh,List.getElem?_set_self hl] at h
  exact .inl ⟨rfl,(Option.some.inj h).symm,hl⟩
 ·rw [bJ e] at h
  exact .inr ⟨e,h⟩
@[simp] theorem gT (l:List α) (n:Nat) (x:α):(ap l n x).length=l.length:=by rw [eh,List.length_set]
theorem fB (l:List α) (x:α):nth (l++[x]) l.length=some x:=by rw [aY]; simp
theorem cW {l:List α} {n:Nat} {y x:α} (h:nth l n=some y):nth (l++[x]) n=some y:=by
 have:=bI h
 rw [aY] at *
 rw [List.getElem?_append_left this]
 exact h
theorem au {l:List α} {n:Nat} {y x:α} (h:nth (l++[x]) n=some y):nth l n=some y∨(n=l.length∧y=x):=by
 rw [aY] at *
 by_cases e:n < l.length
 ·rw [List.getElem?_append_left e] at h; exact .inl h
 ·rw [List.getElem?_append_right (by omega)] at h
  have hl:=(List.getElem?_eq_some_iff.1 h).1
  simp at hl
  have:n - l.length=0:=by omega
  rw [this] at h
  simp at h
  exact .inr ⟨by omega,h.symm⟩
theorem lT:∀ {l:List α} {n:Nat} {x:α},nth l n=some x→ap l n x=l
 | [],_,_,h=>by cases h
 | a :: l,0,x,h=>by cases h; rfl
 | a :: l,n+1,x,h=>by
  show a :: ap l n x=a :: l
  rw [lT (show nth l n=some x from h)]
end lists
def SM (R:aj) (w:World) (Wz:bp→Array Value→Prop) (busy:Bool) (pending:Option Code) (ae:bp) (n:Nat) (params:List Tmp) (assign body:Code) (defers:Nat) (done:Bool) (b:Nat):Prop:=
 ∃ (r:Loop) (db:Nat),w.heap[b]?=some (.loop r)∧r.state=(if done then .done else if busy then .busy else .ready)∧r.pending=pending ∧
  Wz ae r.tmps∧r.tmps.size=n∧r.params=⟨params⟩∧r.assign=assign∧r.body=body∧r.defers=db∧nth R.obj defers=some (.b0 db)
def pO (R:aj) (w:World) (β:Nat→Nat):SV→Value→Prop
 | .none,_=>True
 | .v a,c=>Rel R w a c
 | .lp k off,c=>c=.pointer (some ⟨β k,off,none⟩)
def ob (R:aj) (w:World) (β:Nat→Nat) (ae:bp) (tmps:Array Value):Prop:=
 ∀ i,lk ae i≠.none→∃ c,tmps[i]?=some c∧pO R w β (lk ae i) c
def Gq:bp→Bool
 | []=>true
 | .put _ (.lp _ _) :: _=>false
 | _ :: l=>Gq l
def cZ (R:aj) (w:World):List (AV × AV)→List MapEntry→Prop
 | [],[]=>True
 | (k,v) :: l,e :: es=>Rel R w k e.key∧Rel R w v e.val∧cZ R w l es
 | _,_=>False
def zJ (R:aj) (w:World) (sz:Nat) (e:TypeId) (f:Nat):TR→Prop
 | .bF=>f=0
 | .full f'=>f'=f
 | .tok f' b c=>f'=f∧∃ cur,w.heap[b]?=some (.cells cur e (0,0))∧f≤c∧c≤maxLen∧cur.size=c * sz∧∀ o,f * sz≤o→¬ R.I b o
def WA (ts:List TR):Prop:=∀ i j f b c f' c',nth ts i=some (.tok f b c)→nth ts j=some (.tok f' b c')→i=j
def wg (R:aj) (w:World) (sz:Nat) (e:TypeId) (fs:List Nat) (ts:List TR):Prop:=
 ts.length=fs.length∧WA ts∧∀ j f t,nth fs j=some f→nth ts j=some t→zJ R w sz e f t
def jH (av:Array MapEntry) (clock:Nat):Prop:=clock=av.size∧∀ (i:Nat) (e:MapEntry),av.toList[i]?=some e→e.born=i
def WB (R:aj) (w:World) (qm n:Nat) (left:List Nat) (cur:Option Nat) (b:Nat):Prop:=
 ∃ bm seen c0,nth R.obj qm=some (.b0 bm)∧w.heap[b]?=some (.mapIter (some bm) n seen c0)∧(∀ i,i < n→(i∈left↔seen.contains i=false))∧(∀ i∈left,i < n)∧left.Nodup∧n≤c0∧∀ i,cur=some i→seen.back?=some i∧c0=n
def gL (R:aj) (w:World):GO→RO→Prop
 | .dead,.none=>True
 | .dead,.bF=>True
 | .dead,.b0 b=>b < w.heap.size
 | .dead,.tok _ b _=>b < w.heap.size
 | .dead,.aP ts=>∀ j f b c,nth ts j=some (.tok f b c)→b < w.heap.size
 | .aP fs sz e,.aP ts=>wg R w sz e fs ts
 | .nZ qm n left cur _,.b0 b=>WB R w qm n left cur b
 | .tok f _ _,.bF=>f=0
 | .row cs el,.b0 b=>∃ vs,w.heap[b]?=some (.cells ⟨vs⟩ el (0,0))∧aK R w cs vs∧(∀ v∈vs,v.oneCell'=true)∧∀ o,¬ R.I b o
 | .tok f sz e,.tok f' b c=>f'=f∧∃ cur,w.heap[b]?=some (.cells cur e (0,0))∧f≤c∧c≤maxLen∧cur.size=c * sz∧∀ o,f * sz≤o→¬ R.I b o
 | .a7 es _ _,.bF=>es=[]
 | .a7 es sz e,.tok f b c=>f=es.length∧dq sz es∧∃ cur vs,w.heap[b]?=some (.cells cur e (0,0))∧f≤c∧c≤maxLen∧cur.size=c * sz∧(∀ o,¬ R.I b o)∧aK R w (aq es) vs∧(∀ v∈vs,v.oneCell'=true)∧cur.toList.take (f * sz)=vs
 | .map es,.b0 b=>∃ av clock,w.heap[b]?=some (.map av clock)∧cZ R w es av.toList∧jH av clock
 | .gf l pos,.b0 b=>w.heap[b]?=some (.stringIter ⟨⟨l⟩⟩ pos)
 | .loop busy pending _ ae n params assign body defers done,.b0 b=>SM R w (ob R w (fun _=>0)) busy pending ae n params assign body defers done b∧Gq ae=true
 | .defers o,.b0 b=>w.heap[b]?=some (.deferred (if o then some [] else none))
 | _,_=>False
def lq (E:Env) (R:aj) (w:World) (g:Nat) (cs:List AV):Prop:=
 dU R w g 0 cs∧(E.gx g=true→R.I g cs.length∧w.cell? ⟨g,cs.length,none⟩=none)
theorem lq.mono {E:Env} {R R':aj} {w w':World} {g:Nat} {cs:List AV} (h:lq E R w g cs) (e:Ext R w R' w'):lq E R' w' g cs:=
 ⟨h.1.mono e,fun hx=>⟨e.I _ _ (h.2 hx).1,(e.cell _ _ (h.2 hx).1).trans (h.2 hx).2⟩⟩
structure dE (E:Env) (R:aj) (w:World) (G:List GO):Prop where
 len:R.obj.length=G.length
 obj:∀ id go ro,nth G id=some go→nth R.obj id=some ro→gL R w go ro
 inj:∀ i j ri rj b,nth R.obj i=some ri→nth R.obj j=some rj→ri.has b→rj.has b→i=j
 wf:∀ b o,R.I b o→b < w.heap.size
 cw:∀ g cs,E.cw g=some cs→lq E R w g cs
 lo:E.lo≤w.drawn
def Live (R:aj) (b:Nat):Prop:=∃ id ro,nth R.obj id=some ro∧ro.has b
structure Nx (R:aj) (w:World) (β:Nat→Nat) (boxes:cF):Prop where
 box:∀ k cs,dS boxes k=some cs→(∃ vs el,w.heap[β k]?=some (.cells ⟨vs⟩ el (0,0))∧aK R w cs vs∧(∀ v∈vs,v.oneCell'=true))∧(∀ o,¬ R.I (β k) o)∧¬ Live R (β k)
 inj:∀ k k' cs eV,dS boxes k=some cs→dS boxes k'=some eV→β k=β k'→k=k'
def pP (R:aj):List Nat→List Deferred→Prop
 | [],[]=>True
 | id :: l,d :: ds=>(∃ b,nth R.obj id=some (.b0 b)∧d={ target:=.collected b,args:=#[] })∧pP R l ds
 | _,_=>False
structure bi (E:Env) (R:aj) (w:World) (β:Nat→Nat) (s:St) (a:Act):Prop where
 g:dE E R w s.G
 b:Nx R w β s.boxes
 t:ob R w β s.ae a.tmps
 n:a.tmps.size=s.n
 d:pP R s.marks a.defers
def Own (R:aj) (β:Nat→Nat) (boxes:cF) (b:Nat):Prop:=
 Live R b∨∃ k cs,dS boxes k=some cs∧β k=b
structure Step (R:aj) (w:World) (β:Nat→Nat) (bx:cF) (R':aj) (w':World) (β':Nat→Nat) (JA:cF):Prop where
 ext:Ext R w R' w'
 os:w'.os=w.os
 tape:w'.tape=w.tape
 output:w'.output=w.output
 size:w.heap.size≤w'.heap.size
 bQ:∀ b,b < w.heap.size→¬ Own R β bx b→w'.heap[b]?=w.heap[b]?
 own:∀ b,b < w.heap.size→Own R' β' JA b→Own R β bx b
 im:∀ b o,R'.I b o→b < w.heap.size→¬ Own R β bx b→R.I b o
theorem Step.refl (R:aj) (w:World) (β:Nat→Nat) (bx:cF):Step R w β bx R w β bx:=
 ⟨Ext.refl R w,rfl,rfl,rfl,Nat.le_refl _,fun _ _ _=>rfl,fun _ _ h=>h,fun _ _ h _ _=>h⟩
theorem Step.trans {R R1 R2:aj} {w w1 w2:World} {β β1 β2:Nat→Nat} {x x1 x2:cF}
  (h:Step R w β x R1 w1 β1 x1) (k:Step R1 w1 β1 x1 R2 w2 β2 x2):Step R w β x R2 w2 β2 x2 where
 ext:=h.ext.trans k.ext
 os:=k.os.trans h.os
 tape:=k.tape.trans h.tape
 output:=k.output.trans h.output
 size:=Nat.le_trans h.size k.size
 bQ:=fun b hb hn=>(k.bQ b (Nat.lt_of_lt_of_le hb h.size) (fun ho=>hn (h.own b hb ho))).trans (h.bQ b hb hn)
 own:=fun b hb ho=>h.own b hb (k.own b (Nat.lt_of_lt_of_le hb h.size) ho)
 im:=fun b o hi hb hn=>h.im b o (k.im b o hi (Nat.lt_of_lt_of_le hb h.size) (fun ho=>hn (h.own b hb ho))) hb hn
theorem pO.mono {R R':aj} {w w':World} {β:Nat→Nat} (e:Ext R w R' w') {x:SV} {c:Value} (h:pO R w β x c):pO R' w' β x c:=by
 cases x with
 | none=>trivial
 | v a=>exact Rel.mono e h
 | lp k off=>exact h
theorem wh (n:Nat):Nat.beq n n=true:=Nat.beq_refl n
theorem mM {n m:Nat} (h:n≠m):Nat.beq n m=false:=by
 cases hb:Nat.beq n m with
 | true=>exact absurd (Nat.eq_of_beq_eq_true hb) h
 | false=>rfl
theorem ba (l:bp) (d:Nat) (x:SV):lk (.put d x :: l) d=x:=by simp [lk]
theorem bA {l:bp} {d t:Nat} {x:SV} (h:d≠t):lk (.put d x :: l) t=lk l t:=by simp [lk,mM h]
theorem Gr {l:bp} {d t:Nat}:(lk (.kill d :: l) t=lk l t∧∀ k off,lk l t=.lp k off→k≠d)∨lk (.kill d :: l) t=.none:=by
 simp only [lk]
 cases h:lk l t with
 | none=>exact .inr rfl
 | v a=>exact .inl ⟨rfl,fun _ _ e=>by cases e⟩
 | lp k off=>
  by_cases hk:k=d
  ·subst hk
   exact .inr (by simp)
  ·exact .inl ⟨by simp [mM hk],fun k' ED e=>by cases e; exact hk⟩
theorem JB (l:cF) (d:Nat) (cs:List AV):dS ((d,cs) :: l) d=some cs:=by simp [dS]
theorem eu {l:cF} {d k:Nat} {cs eV:List AV} (h:dS ((d,cs) :: l) k=some eV):(d=k∧eV=cs)∨(d≠k∧dS l k=some eV):=by
 by_cases e:d=k
 ·subst e
  rw [JB] at h
  exact .inl ⟨rfl,(Option.some.inj h).symm⟩
 ·simp only [dS,mM e,cond_false] at h
  exact .inr ⟨e,h⟩
theorem Ny {l:cF} (h:l.all (fun p=>aC p.2)=true) {k:Nat} {cs:List AV} (hk:dS l k=some cs):aC cs=true:=by
 induction l with
 | nil=>simp [dS] at hk
 | cons x l ih=>
  obtain ⟨d,c⟩:=x
  simp only [List.all_cons,Bool.and_eq_true] at h
  rcases eu hk with ⟨_,rfl⟩ | ⟨_,hk⟩
  ·exact h.1
  ·exact ih h.2 hk
theorem ob.put {R:aj} {w:World} {β:Nat→Nat} {ae:bp} {a:Act} (h:ob R w β ae a.tmps) {d:Tmp} {x:SV} {c:Value} (hd:d < a.tmps.size) (hx:pO R w β x c) :
  ob R w β (.put d x :: ae) (a.put (some d) c).tmps:=by
 intro i hi
 by_cases e:d=i
 ·subst e
  rw [ba]
  exact ⟨c,by simp [Act.put,hd],hx⟩
 ·rw [bA e] at hi ⊢
  obtain ⟨c',h1,h2⟩:=h i hi
  refine ⟨c',?_,h2⟩
  simp only [Act.put]
  rw [Array.getElem?_setIfInBounds_ne e]
  exact h1
theorem bi.put {E:Env} {R:aj} {w:World} {β:Nat→Nat} {s:St} {a:Act} (h:bi E R w β s a) (dst:Option Tmp) {x:SV} {c:Value} (hx:pO R w β x c) :
  bi E R w β (s.put dst x) (a.put dst c):=by
 cases dst with
 | none=>exact h
 | some d=>
  simp only [St.put]
  cases hb:Nat.blt d s.n with
  | true=>
   have hd:d < a.tmps.size:=by rw [h.n]; exact Nat.le_of_ble_eq_true hb
   exact ⟨h.g,h.b,h.t.put hd hx,by simp [Act.put,h.n],h.d⟩
  | false=>
   have hd:¬ d < a.tmps.size:=by
    rw [h.n]
    intro bP
    have:Nat.blt d s.n=true:=Nat.ble_eq_true_of_le bP
    rw [this] at hb
    cases hb
   have he:a.put (some d) c=a:=by
    simp only [Act.put]
    rw [Array.setIfInBounds_eq_of_size_le (Nat.not_lt.1 hd)]
   rw [he]
   exact h
theorem rF {R:aj} {w:World} {v:Value} {a:AV} (h:rq v=some a):Rel R w a v∧v.oneCell'=true:=by
 unfold rq at h
 split at h <;> cases h
 ·exact ⟨.bool _,rfl⟩
 ·exact ⟨.int _ _,rfl⟩
 ·rename_i s
  exact ⟨.str s.data.toList,rfl⟩
 ·exact ⟨.ke,rfl⟩
 ·exact ⟨.kL,rfl⟩
 ·exact ⟨.jS,rfl⟩
 ·exact ⟨.cu,rfl⟩
 ·exact ⟨.nU,rfl⟩
theorem mN {R:aj} {w:World}:∀ {vs:List Value} {l:List AV},lP vs=some l→aK R w l vs∧∀ v∈vs,v.oneCell'=true
 | [],l,h=>by simp [lP] at h; subst h; exact ⟨.nil,by simp⟩
 | v :: vs,l,h=>by
  unfold lP at h
  split at h
  ·rename_i a r h1 h2
   cases h
   obtain ⟨k1,k2⟩:=rF (R:=R) (w:=w) h1
   obtain ⟨k3,k4⟩:=mN (R:=R) (w:=w) h2
   exact ⟨.cons k1 k3,by simp [k2]; exact k4⟩
  ·cases h
theorem tY {R:aj} {w:World} {v:Value} {a:AV} (h:rr v=some a):Rel R w a v:=by
 unfold rr at h
 split at h
 ·rename_i cs
  split at h
  ·rename_i l hl
   cases h
   obtain ⟨k1,k2⟩:=mN (R:=R) (w:=w) hl
   exact .agg (vs:=cs.toList) k1 k2
  ·cases h
 ·rename_i cs
  split at h
  ·rename_i l hl
   cases h
   obtain ⟨k1,_⟩:=mN (R:=R) (w:=w) hl
   exact .bH (vs:=cs.toList) k1
  ·cases h
 ·exact (rF h).1
theorem aR {E:Env} {R:aj} {w:World} {β:Nat→Nat} {s:St} {a:Act} (h:bi E R w β s a) (x:Operand):pO R w β (bS E s.ae x) (a.eval x):=by
 cases x with
 | tmp t=>
  simp only [bS,Act.eval]
  by_cases hn:lk s.ae t=.none
  ·rw [hn]; trivial
  ·obtain ⟨c,h1,h2⟩:=h.t t hn
   have:a.tmps.getD t undef=c:=by simp [Array.getD_eq_getD_getElem?,h1]
   rw [this]
   exact h2
 | const v=>
  simp only [bS,Act.eval]
  cases hc:rr v with
  | none=>trivial
  | some y=>exact tY hc
 | global g=>
  simp only [bS,Act.eval]
  cases hg:E.cw g with
  | none=>trivial
  | some cs=>exact Rel.ep (h.g.cw g cs hg).1
 | func f=>exact Rel.fn .nil .nil
end Go.Am
