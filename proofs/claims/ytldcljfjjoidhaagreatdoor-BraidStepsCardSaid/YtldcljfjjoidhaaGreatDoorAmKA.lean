/- The abstract machine: its values,its state,and what each operation does (definitions alone). -/
import Derived.CallsIn
import Derived.RangeFuncLeaves
import Derived.Laws.AppendOwn
set_option linter.all false
namespace Go.Am
open Go
inductive LK where
 | nil | full | ki | own (id:Nat) | ba (id j:Nat)
inductive AV where
 | bool (b:Bool)
 | int (k:IntKind) (n:Int)
 | str (s:List UInt8)
 | agg (cs:List AV)
 | bf (vs:List AV)
 | gG
 | ptr (id off:Nat)
 | ep (cs:List AV)
 | list (k:LK) (sz:Nat) (es:List AV)
 | jh (id off sz len cap:Nat)
 | dA (id f off sz len:Nat)
 | gp (id f i off sz:Nat) (t:TypeId)
 | jE
 | map (id:Nat)
 | cm
 | fn (f:FuncId) (first cap:List AV)
 | yield (id:Nat)
 | mN
 | iface (t:TypeId) (v:AV)
def LK.closed:LK→Bool
 | .own _=>false
 | .ba _ _=>false
 | _=>true
mutual
def AV.closed:AV→Bool
 | .agg cs=>aB cs
 | .bf cs=>aB cs
 | .ep cs=>aB cs
 | .list k _ _=>k.closed
 | .fn _ x y=>aB x&&aB y
 | .iface _ v=>v.closed
 | .ptr _ _=>false
 | .jh _ _ _ _ _=>false
 | .dA _ _ _ _ _=>false
 | .gp _ _ _ _ _ _=>false
 | .map _=>false
 | .yield _=>false
 | _=>true
def aB:List AV→Bool
 | []=>true
 | a :: l=>a.closed&&aB l
end
mutual
def AV.fM:AV→AV
 | .agg cs=>.agg (kr cs)
 | .bf cs=>.bf (kr cs)
 | .list (.own _) sz es=>.list .ki sz es
 | .list (.ba _ _) sz es=>.list .ki sz es
 | v=>v
def kr:List AV→List AV
 | []=>[]
 | a :: l=>a.fM :: kr l
end
inductive SV where
 | none
 | v (a:AV)
 | lp (key off:Nat)
inductive Ent where
 | put (d:Nat) (x:SV)
 | kill (d:Nat)
abbrev a8:=List Ent
abbrev cw:=List (Nat × List AV)
def lk:a8→Nat→SV
 | [],_=>.none
 | .put d x :: l,t=>bif Nat.beq d t then x else lk l t
 | .kill d :: l,t=>match lk l t with
  | .lp k off=>bif Nat.beq k d then .none else .lp k off
  | x=>x
def dm:cw→Nat→Option (List AV)
 | [],_=>none
 | (d,cs) :: l,k=>bif Nat.beq d k then some cs else dm l k
inductive GO where
 | dead
 | row (cs:List AV) (el:TypeId)
 | tok (f sz:Nat) (e:TypeId)
 | ba (fs:List Nat) (sz:Nat) (e:TypeId)
 | mJ (pt n:Nat) (left:List Nat) (cur:Option Nat) (t:TypeId)
 | cS (es:List AV) (sz:Nat) (el:TypeId)
 | map (es:List (AV × AV))
 | fG (s:List UInt8) (pos:Nat)
 | loop (busy:Bool) (pending:Option Code) (fn:FuncId) (ae:a8) (n:Nat) (params:List Tmp) (assign body:Code) (defers:Nat) (done:Bool)
 | defers (open_:Bool)
structure St where
 ae:a8
 boxes:cw
 G:List GO
 marks:List Nat
 ro:Option Nat
 n:Nat
def nth {α:Type}:List α→Nat→Option α
 | [],_=>none
 | a :: _,0=>some a
 | _ :: l,n+1=>nth l n
def aA {α:Type}:List α→Nat→α→List α
 | [],_,_=>[]
 | _ :: l,0,x=>x :: l
 | a :: l,n+1,x=>a :: aA l n x
def takeN {α:Type}:Nat→List α→Option (List α)
 | 0,_=>some []
 | _+1,[]=>none
 | n+1,a :: l=>match takeN n l with
  | some r=>some (a :: r)
  | none=>none
def eN {α:Type}:Nat→List α→List α
 | 0,l=>l
 | _+1,[]=>[]
 | n+1,_ :: l=>eN n l
def Em {α:Type} (off n:Nat) (l:List α):Option (List α):=takeN n (eN off l)
def a7 {α:Type}:List α→Nat→List α→List α
 | l,_,[]=>l
 | [],_,_ :: _=>[]
 | _ :: l,0,y :: ys=>y :: a7 l 0 ys
 | a :: l,n+1,y :: ys=>a :: a7 l n (y :: ys)
def AV.cells:AV→List AV
 | .agg cs=>cs
 | v=>[v]
def AV.one:AV→Bool
 | .agg _=>false
 | .bf _=>false
 | _=>true
def p9:Value→Option AV
 | .bool b=>some (.bool b)
 | .int k n=>some (.int k n)
 | .string s=>some (.str s.data.toList)
 | .slice none 0 0=>some (.list .nil 0 [])
 | .pointer none=>some .gG
 | .map none=>some .jE
 | .nilFunc=>some .cm
 | .nilIface=>some .mN
 | _=>none
def lg:List Value→Option (List AV)
 | []=>some []
 | v :: vs=>match p9 v,lg vs with
  | some a,some l=>some (a :: l)
  | _,_=>none
def qa:Value→Option AV
 | .agg cs=>match lg cs.toList with
  | some l=>some (.agg l)
  | none=>none
 | .tuple cs=>match lg cs.toList with
  | some l=>some (.bf l)
  | none=>none
 | v=>p9 v
inductive TK where
 | sc
 | int (k:IntKind)
 | str
 | st (fs:List (Nat × Nat × Bool))
 | arr (len esz:Nat) (YI:Bool)
 | sl (elem esz:Nat) (YI:Bool) (bu:Nat) (U5:Option AV)
 | map (key elem:TypeId) (U5:Option AV)
mutual
inductive EK where
 | no
 | bool
 | int
 | str
 | st (fs:QP)
inductive QP where
 | nil
 | cons (off sz:Nat) (ag:Bool) (k:EK) (rest:QP)
end
structure TI where
 k:TK
 size:Nat
 agg:Bool
 zero:Option AV
 ek:EK
def iT:TypeDesc→Bool
 | .struct _=>true
 | .array _ _=>true
 | _=>false
def fieldsOf (P:Program):List Field→Option (List (Nat × Nat × Bool))
 | []=>some []
 | f :: fs=>match P.info? f.type,P.underlying f.type,fieldsOf P fs with
  | some i,some u,some l=>some ((f.offset,i.size,iT u) :: l)
  | _,_,_=>none
def ft (i:TypeInfo):Option AV:=match i.zero with
 | some z=>qa z
 | none=>none
def oI (P:Program):TypeDesc→Option TK
 | .int k=>some (.int k)
 | .string=>some .str
 | .struct fs=>match fieldsOf P fs.toList with
  | some l=>some (.st l)
  | none=>none
 | .array n e=>match P.info? e,P.underlying e with
  | some i,some u=>some (.arr n i.size (iT u))
  | _,_=>none
 | .slice e=>match P.info? e,P.underlying e with
  | some i,some u=>some (.sl e i.size (iT u) i.bytes (ft i))
  | _,_=>none
 | .map k e=>match P.info? e with
  | some i=>some (.map k e (ft i))
  | none=>none
 | _=>some .sc
def Cx (P:Program) (ek:TypeId→EK):List Field→Option QP
 | []=>some .nil
 | f :: fs => if f.name == "_" then none else match P.info? f.type, P.underlying f.type, Cx P ek fs with
  | some i,some u,some l=>some (.cons f.offset i.size (iT u) (ek f.type) l)
  | _,_,_=>none
def uv (sz:Nat) (ag:Bool) (k:EK):Nat→Nat→QP
 | 0,_=>.nil
 | n+1,i=>.cons (i * sz) sz ag k (uv sz ag k n (i+1))
def oJ (P:Program):Nat→TypeId→EK
 | 0,_=>.no
 | n+1,t=>match P.underlying t with
  | some .bool=>.bool
  | some (.int _)=>.int
  | some .string=>.str
  | some (.struct fs)=>if P.stoodInHeld t then .no else match Cx P (oJ P n) fs.toList with
   | some l=>.st l
   | none=>.no
  | some (.array m e)=>match P.info? e,P.underlying e with
   | some i,some u=>.st (uv i.size (iT u) (oJ P n e) m 0)
   | _,_=>.no
  | _=>.no
def sG (P:Program) (t:TypeId):EK:=match oJ P 6 t with
 | .st l=>if P.eqGuardType P.depth t then .no else .st l
 | k=>k
def FE (P:Program) (t:TypeId):Option TI:=
 match P.info? t,P.underlying t with
 | some i,some u=>match oI P u with
  | some k=>some { k:=k,size:=i.size,agg:=iT u,zero:=ft i,ek:=sG P t }
  | none=>none
 | _,_=>none
def Hm:AV→AV→Bool
 | .bool a,.bool b=>a == b
 | .int k a,.int k' b=>(k == k')&&a == b
 | .str a,.str b=>a == b
 | .gG,.gG=>true
 | .ptr i o,.ptr i' o'=>Nat.beq i i'&&Nat.beq o o'
 | .jE,.jE=>true
 | .map i,.map i'=>Nat.beq i i'
 | .cm,.cm=>true
 | .mN,.mN=>true
 | .jh a b c d e,.jh a' b' c' d' e'=>Nat.beq a a'&&Nat.beq b b'&&Nat.beq c c'&&Nat.beq d d'&&Nat.beq e e'
 | .dA a b c d e,.dA a' b' c' d' e'=>Nat.beq a a'&&Nat.beq c c'&&Nat.beq d d'&&(Nat.beq b b'&&Nat.beq e e')
 | .gp a b c d e t,.gp a' b' c' d' e' t'=>Nat.beq a a'&&Nat.beq b b'&&Nat.beq c c'&&Nat.beq d d'&&Nat.beq e e'&&Nat.beq t t'
 | _,_=>false
mutual
def dK:AV→AV→Bool
 | .fn f x y,.fn f' x' y'=>Nat.beq f f'&&lh x x'&&lh y y'
 | .agg cs,.agg cs'=>lh cs cs'
 | .ep cs,.ep cs'=>lh cs cs'
 | .bf cs,.bf cs'=>lh cs cs'
 | .list .nil a es,.list .nil a' es'=>Nat.beq a a'&&lh es es'
 | .list .full a es,.list .full a' es'=>Nat.beq a a'&&lh es es'
 | .list .ki a es,.list .ki a' es'=>Nat.beq a a'&&lh es es'
 | .list (.own i) a es,.list (.own i') a' es'=>Nat.beq i i'&&Nat.beq a a'&&lh es es'
 | .list (.ba i j) a es,.list (.ba i' j') a' es'=>Nat.beq i i'&&Nat.beq j j'&&Nat.beq a a'&&lh es es'
 | a,b=>Hm a b
def lh:List AV→List AV→Bool
 | [],[]=>true
 | a :: l,b :: r=>dK a b&&lh l r
 | _,_=>false
end
mutual
inductive aj
 | int (k:IntKind)
 | bool
 | str
 | agg (ps:aJ)
 | bf (ps:aJ)
 | list (sz:Nat) (p:aj)
 | own (id sz:Nat) (p:aj)
 | ba (id sz:Nat) (p:aj)
 | fk (v:AV)
 | two (u v:AV)
inductive aJ
 | nil
 | cons (p:aj) (ps:aJ)
end
def U6 (s:Bool) (α β:Type):Type:=match s with
 | true=>α
 | false=>α × β
def aJ.isNil:aJ→Bool
 | .nil=>true
 | .cons _ _=>false
mutual
def aj.T:aj→Type
 | .int _=>Int
 | .bool=>Bool
 | .str=>List UInt8
 | .agg ps=>ps.T
 | .bf ps=>ps.T
 | .list _ p=>List p.T
 | .own _ _ p=>List p.T
 | .ba _ _ p=>Nat × List p.T
 | .fk _=>Unit
 | .two _ _=>Bool
def aJ.T:aJ→Type
 | .nil=>Unit
 | .cons p ps=>U6 ps.isNil p.T ps.T
end
mutual
def aj.enc:(p:aj)→p.T→AV
 | .int k,(n:Int)=>.int k n
 | .bool,(b:Bool)=>.bool b
 | .str,(s:List UInt8)=>.str s
 | .agg ps,x=>.agg (ps.enc x)
 | .bf ps,x=>.bf (ps.enc x)
 | .list sz p,(xs:List p.T)=>.list .ki sz (xs.map p.enc)
 | .own id sz p,(xs:List p.T)=>.list (.own id) sz (xs.map p.enc)
 | .ba id sz p,(x:Nat × List p.T)=>.list (.ba id x.1) sz (x.2.map p.enc)
 | .fk v,_=>v
 | .two u v,(b:Bool)=>bif b then v else u
def aJ.enc:(ps:aJ)→ps.T→List AV
 | .nil,_=>[]
 | .cons p .nil,x=>[p.enc x]
 | .cons p (.cons q ps),x=>p.enc x.1 :: (aJ.cons q ps).enc x.2
end
def QQ:IntKind→IntKind→Bool:=fun a b=>decide (a=b)
def AV.iT:AV→List AV
 | .agg cs=>cs
 | _=>[]
def AV.QR:AV→List AV
 | .bf cs=>cs
 | _=>[]
def AV.dB:AV→List AV
 | .list _ _ es=>es
 | _=>[]
def AV.YJ:AV→Nat
 | .list (.ba _ j) _ _=>j
 | _=>0
def AV.kj:AV→Int
 | .int _ n=>n
 | _=>0
def AV.U7:AV→Bool
 | .bool b=>b
 | _=>false
def AV.QS:AV→List UInt8
 | .str s=>s
 | _=>[]
def dL:List AV→AV
 | a :: _=>a
 | []=>.gG
def Hn:List AV→List AV
 | _ :: l=>l
 | []=>[]
mutual
def aj.bn:(p:aj)→AV→p.T
 | .int _,v=>v.kj
 | .bool,v=>v.U7
 | .str,v=>v.QS
 | .agg ps,v=>ps.bn v.iT
 | .bf ps,v=>ps.bn v.QR
 | .list _ p,v=>v.dB.map p.bn
 | .own _ _ p,v=>v.dB.map p.bn
 | .ba _ _ p,v=>(v.YJ,v.dB.map p.bn)
 | .fk _,_=>()
 | .two _ v,a=>dK a v
def aJ.bn:(ps:aJ)→List AV→ps.T
 | .nil,_=>()
 | .cons p .nil,l=>p.bn (dL l)
 | .cons p (.cons q ps),l=>(p.bn (dL l),(aJ.cons q ps).bn (Hn l))
end
def allFit (f:AV→Bool):List AV→Bool
 | []=>true
 | a :: l=>f a&&allFit f l
mutual
def aj.fits:aj→AV→Bool
 | .int k,v=>match v with
  | .int k' _=>QQ k k'
  | _=>false
 | .bool,v=>match v with
  | .bool _=>true
  | _=>false
 | .str,v=>match v with
  | .str _=>true
  | _=>false
 | .agg ps,v=>match v with
  | .agg cs=>ps.fits cs
  | _=>false
 | .bf ps,v=>match v with
  | .bf cs=>ps.fits cs
  | _=>false
 | .list sz p,v=>match v with
  | .list _ bI es=>(Nat.beq sz bI || es.isEmpty)&&allFit p.fits es
  | _=>false
 | .own id sz p,v=>match v with
  | .list (.own iS) bI es=>(Nat.beq id iS&&Nat.beq sz bI)&&allFit p.fits es
  | _=>false
 | .ba id sz p,v=>match v with
  | .list (.ba iS _) bI es=>(Nat.beq id iS&&Nat.beq sz bI)&&allFit p.fits es
  | _=>false
 | .fk v,u=>dK u v
 | .two u v,a=>dK a u || dK a v
def aJ.fits:aJ→List AV→Bool
 | .nil,l=>l.isEmpty
 | .cons p ps,l=>match l with
  | a :: l=>p.fits a&&ps.fits l
  | []=>false
end
def aj.dec (p:aj) (v:AV):Option p.T:=bif p.fits v then some (p.bn v) else none
def aJ.dec (ps:aJ) (l:List AV):Option ps.T:=bif ps.fits l then some (ps.bn l) else none
structure Env where
 P:Program
 ti:TypeId→Option TI
 bY:Nat→Option (List AV)
 xl:FuncId→Tmp→Bool
 PR:TypeId→Option aj
 lo:Nat:=0
 gho:FuncId→Tmp→List (Option Nat × Nat × TypeId):=fun _ _=>[]
 XR:TypeId→Option aj:=fun _=>none
 gx:Nat→Bool:=fun _=>false
 FF:∀ t i,ti t=some i→FE P t=some i
 mixed:P.follows .mixedOrders=true
 mT:∀ g cs,bY g=some cs→aB cs=true
def bB (E:Env) (ae:a8):Operand→SV
 | .tmp t=>lk ae t
 | .const v=>match qa v with
  | some a=>.v a
  | none=>.none
 | .global g=>match E.bY g with
  | some cs=>.v (.ep cs)
  | none=>.none
 | .func f=>.v (.fn f [] [])
def St.put (s:St) (dst:Option Tmp) (x:SV):St:=match dst with
 | some d=>match Nat.blt d s.n with
  | true=>⟨.put d x :: s.ae,s.boxes,s.G,s.marks,s.ro,s.n⟩
  | false=>s
 | none=>s
def eX:AV:=.bf []
def rA (agg:Bool) (cs:List AV):Option AV:=
 if agg then some (.agg cs) else match cs with
  | [c]=>some c
  | _=>none
def lQ (s:St):SV→Option (List AV × Nat)
 | .lp k off=>match dm s.boxes k with
  | some cs=>some (cs,off)
  | none=>none
 | .v (.ptr id off)=>match nth s.G id with
  | some (.row cs _)=>some (cs,off)
  | _=>none
 | .v (.ep cs)=>some (cs,0)
 | _=>none
def xT (n:Nat):SV→Option SV
 | .lp k off=>some (.lp k (off+n))
 | .v (.ptr id off)=>some (.v (.ptr id (off+n)))
 | .v (.ep cs)=>some (.v (.ep (eN n cs)))
 | .v (.gp id f i off sz t)=>some (.v (.gp id f i (off+n) sz t))
 | _=>none
def zb (t:Bool):AV→AV→AV
 | .bool x,.bool y=>.bool (bif t then x else y)
 | .int k x,.int k' y=>if k=k' then .int k (bif t then x else y) else (bif t then .int k x else .int k' y)
 | a,b=>bif t then a else b
def En (ag:Bool) (off sz:Nat) (cs:List AV):Option AV:=
 if ag then (match Em off sz cs with | some l=>rA true l | none=>none) else (match Em off 1 cs with | some l=>rA false l | none=>none)
mutual
def km:EK→AV→AV→Option Bool
 | .bool,.bool a,.bool b=>some (a == b)
 | .int,.int k a,.int k' b=>if k=k' then some (a == b) else none
 | .str,.str a,.str b=>some (a == b)
 | .st fs,.agg xs,.agg ys=>rB fs xs ys
 | _,_,_=>none
def rB:QP→List AV→List AV→Option Bool
 | .nil,_,_=>some true
 | .cons off sz ag k rest,xs,ys=>match En ag off sz xs,En ag off sz ys with
  | some a,some b=>match km k a b,rB rest xs ys with
   | some t,some u=>some (t&&u)
   | _,_=>none
  | _,_=>none
end
def FG (k:IntKind) (a b:Int):Int:=k.wrap (BitVec.ofInt k.bits a &&& BitVec.ofInt k.bits b).toNat
def YK (k:IntKind) (a b:Int):Int:=k.wrap (BitVec.ofInt k.bits a ||| BitVec.ofInt k.bits b).toNat
def FH (k:IntKind) (a b:Int):Int:=k.wrap (BitVec.ofInt k.bits a ^^^ BitVec.ofInt k.bits b).toNat
def AJ (op:BinOp) (x y:AV):Option (Bool × AV):=
 match x,y with
 | .int k a,.int k' b=>
  match op with
  | .shl=>some (decide (0≤b),.int k (k.wrap (a * 2 ^ (min b.toNat k.bits))))
  | .shr=>some (decide (0≤b),.int k (a.fdiv (2 ^ (min b.toNat k.bits))))
  | _=>if k=k' then
    match op with
    | .add=>some (true,.int k (k.wrap (a+b)))
    | .sub=>some (true,.int k (k.wrap (a - b)))
    | .mul=>some (true,.int k (k.wrap (a * b)))
    | .quo=>some (!(decide (b=0)),.int k (k.wrap (a.tdiv b)))
    | .rem=>some (!(decide (b=0)),.int k (a.tmod b))
    | .and=>some (true,.int k (FG k a b))
    | .or=>some (true,.int k (YK k a b))
    | .xor=>some (true,.int k (FH k a b))
    | .eql=>some (true,.bool (a == b))
    | .neq=>some (true,.bool (a != b))
    | .lss=>some (true,.bool (a < b))
    | .leq=>some (true,.bool (a≤b))
    | .gtr=>some (true,.bool (a > b))
    | .geq=>some (true,.bool (a≥b))
    | _=>none
   else none
 | .str a,.str b=>
  match op with
  | .add=>some (decide (a.length+b.length≤9223372036854775807),.str (a++b))
  | .eql=>some (true,.bool (a == b))
  | .neq=>some (true,.bool (!(a == b)))
  | .lss=>some (true,.bool (Op.bytesLess a b))
  | .leq=>some (true,.bool (Op.bytesLess a b || a == b))
  | .gtr=>some (true,.bool (!(Op.bytesLess a b || a == b)))
  | .geq=>some (true,.bool (!(Op.bytesLess a b)))
  | _=>none
 | _,_=>none
end Go.Am
namespace Go.Am
open Go
def St.kill (s:St) (d:Nat):St:=⟨.kill d :: s.ae,s.boxes,s.G,s.marks,s.ro,s.n⟩
def AV.aQ:AV→Bool
 | .bf _=>false
 | _=>true
def St.dC (s:St) (o:GO):St:=⟨s.ae,s.boxes,s.G++[o],s.marks,s.ro,s.n⟩
def St.bW (s:St) (G:List GO):St:=⟨s.ae,s.boxes,G,s.marks,s.ro,s.n⟩
def St.tz (s:St) (d:Nat) (cs:List AV):St:=⟨s.ae,(d,cs) :: s.boxes,s.G,s.marks,s.ro,s.n⟩
def er (E:Env) (f:FuncId) (s:St) (dst:Option Tmp) (el:TypeId) (cs:List AV):Option (Bool × St):=
 match dst with
 | none=>none
 | some d=>
  if E.xl f d then some (true,(s.dC (.row cs el)).put (some d) (.v (.ptr s.G.length 0)))
  else match Nat.blt d s.n with
   | true=>some (true,((s.kill d).tz d cs).put (some d) (.lp d 0))
   | false=>none
def kZ (E:Env) (ae:a8):List Operand→Option (List AV)
 | []=>some []
 | x :: l=>match bB E ae x,kZ E ae l with
  | .v a,some r=>some (a :: r)
  | _,_=>none
def La (E:Env) (ae:a8):List (Nat × Operand)→Option (List (Nat × AV))
 | []=>some []
 | (i,x) :: l=>match bB E ae x,La E ae l with
  | .v a,some r=>some ((i,a) :: r)
  | _,_=>none
def placeOf:TK→Nat→Option (Nat × Nat)
 | .st fs,j=>match nth fs j with
  | some (o,sz,_)=>some (o,sz)
  | none=>none
 | .arr _ esz _,j=>some (j * esz,esz)
 | _,_=>none
def sH (place:Nat→Option (Nat × Nat)) (cells:List AV):List (Nat × AV)→Option (List AV)
 | []=>some cells
 | (i,v) :: rest=>match place i with
  | none=>none
  | some (off,sz)=>
   if v.aQ&&Nat.beq v.cells.length sz&&Nat.ble (off+sz) cells.length then sH place (a7 cells off v.cells) rest else none
def AK (esz:Nat) (es:List AV):List (Nat × AV)→Option (List AV)
 | []=>some es
 | (i,v) :: rest=>
  if v.aQ&&Nat.beq v.cells.length esz&&Nat.ble (i+1) es.length&&v.closed then AK esz (aA es i v) rest else none
def lR (E:Env) (s:St) (t:TypeId) (parts:List (Nat × Operand)):Option AV:=
 match E.ti t,La E s.ae parts with
 | some i,some ps=>match i.zero with
  | some z=>match sH (placeOf i.k) z.cells ps with
   | some cs=>if i.agg&&z.aQ then some (.agg cs) else none
   | none=>none
  | none=>none
 | _,_=>none
def xU:List (Nat × AV)→List (Nat × AV)
 | []=>[]
 | (i,v) :: l=>(i,v.fM) :: xU l
def bX (E:Env) (s:St) (t:TypeId) (len:Nat) (parts:List (Nat × Operand)):Option AV:=
 match E.ti t,La E s.ae parts with
 | some i,some ps=>match i.k with
  | .sl _ esz _ _ (some z)=>
    if Nat.beq z.cells.length esz&&Nat.ble 1 esz&&Nat.ble (len * esz) 16777216&&z.aQ&&z.closed then
     match AK esz (List.replicate len z) (xU ps) with
     | some es=>some (.list .full esz es)
     | none=>none
    else none
  | _=>none
 | _,_=>none
def qb (E:Env) (s:St) (t:TypeId) (p:SV):Option AV:=
 match E.ti t,lQ s p with
 | some i,some (cs,off)=>match Em off i.size cs with
  | some l=>rA i.agg l
  | none=>none
 | _,_=>none
def iU (E:Env) (s:St) (t:TypeId) (p x:SV):Option St:=
 match E.ti t,x with
 | some i,.v v=>
  if v.aQ&&Nat.beq v.cells.length i.size then
   match p with
   | .lp k off=>match dm s.boxes k with
    | some cs=>if Nat.ble (off+v.cells.length) cs.length then some (s.tz k (a7 cs off v.cells)) else none
    | none=>none
   | .v (.ptr id off)=>match nth s.G id with
    | some (.row cs el)=>if Nat.ble (off+v.cells.length) cs.length then some (s.bW (aA s.G id (.row (a7 cs off v.cells) el))) else none
    | _=>none
   | _=>none
  else none
 | _,_=>none
def ah (es:List AV) (n:Nat):AV:=match nth es n with
 | some e=>e
 | none=>eX
def iu:List GO→Nat→TypeId→Nat→Option Nat
 | [],_,_,_=>none
 | .ba _ sz e :: G,bI,e',i=>match iu G bI e' (i+1) with
  | some j=>some j
  | none=>bif Nat.beq sz bI&&Nat.beq e e' then some i else none
 | _ :: G,bI,e',i=>iu G bI e' (i+1)
def aj.fin (G:List GO):aj→aj
 | .ba e sz p=>match iu G sz e 0 with
  | some id=>.ba id sz p
  | none=>.ba e sz p
 | .agg ps=>.agg (U8 ps)
 | p=>p
where
 U8:aJ→aJ
  | .nil=>.nil
  | .cons p ps=>.cons (match p with
   | .ba e sz q=>match iu G sz e 0 with
    | some id=>.ba id sz q
    | none=>.ba e sz q
   | p=>p) (U8 ps)
def PS (E:Env) (G:List GO) (t:TypeId):Option aj:=match E.XR t with
 | some p=>some (p.fin G)
 | none=>E.PR t
def uw (E:Env) (s:St) (id f i sz:Nat) (t:TypeId):Option (Bool × AV):=match nth s.G id with
 | some (.cS es bI _)=>match PS E s.G t with
  | some p=>if Nat.beq sz bI then some (decide (f=es.length)&&decide (i < es.length)&&p.fits (ah es i),p.enc (p.bn (ah es i))) else none
  | none=>if Nat.beq sz bI then some (decide (f=es.length)&&decide (i < es.length),ah es i) else none
 | _=>none
def xV (E:Env) (s:St) (t:TypeId) (p:SV):Option (Bool × AV):=match p with
 | .v (.gp id f i off sz ty)=>match E.ti t,uw E s id f i sz ty with
  | some ti,some (c,v)=>match Em off ti.size v.cells with
   | some l=>match rA ti.agg l with
    | some r=>some (c,r)
    | none=>none
   | none=>none
  | _,_=>none
 | p=>match qb E s t p with
  | some v=>some (true,v)
  | none=>none
def iV (E:Env) (s:St) (t:TypeId) (p x:SV):Option (Bool × St):=match p with
 | .v (.gp id f i off sz ty)=>match E.ti t,x,nth s.G id with
  | some ti,.v x,some (.cS es bI el)=>
   if x.aQ&&Nat.beq x.cells.length ti.size&&Nat.beq sz bI then
    if Nat.beq off 0&&Nat.beq ti.size sz then some (decide (f=es.length)&&decide (i < es.length),s.bW (aA s.G id (.cS (aA es i x) bI el)))
    else match uw E s id f i sz ty with
     | some (c,.agg cs)=>if Nat.ble (off+ti.size) cs.length&&Nat.beq cs.length sz then some (c,s.bW (aA s.G id (.cS (aA es i (.agg (a7 cs off x.cells))) bI el))) else none
     | _=>none
   else none
  | _,_,_=>none
 | p=>match iU E s t p x with
  | some s'=>some (true,s')
  | none=>none
def jF (E:Env) (t:TypeId) (x ix:SV):Option (Bool × SV):=
 match E.ti t,ix with
 | some i,.v (.int _ n)=>match i.k,x with
  | .sl _ esz _ _ _,.v (.list _ sz es)=>if Nat.beq sz esz || es.isEmpty then
    match E.PR t with
    | some p=>some (decide (0≤n∧n < es.length)&&p.fits (ah es n.toNat),.v (.ep (p.enc (p.bn (ah es n.toNat))).cells))
    | none=>some (decide (0≤n∧n < es.length),.v (.ep (ah es n.toNat).cells))
   else none
  | .sl _ esz _ _ _,.v (.jh id off sz len _)=>if Nat.beq sz esz then some (decide (0≤n∧n < len),.v (.ptr id (off+n.toNat * sz))) else none
  | .sl _ esz _ _ _,.v (.dA id f off sz len)=>if Nat.beq sz esz then some (decide (0≤n∧n < len),.v (.gp id f (off+n.toNat) 0 sz t)) else none
  | .arr len esz _,.v (.ep cs)=>match E.PR t with
   | some p=>if Nat.beq esz 1&&Nat.ble len cs.length then some (decide (0≤n∧n < len)&&p.fits (ah cs n.toNat),.v (.ep [p.enc (p.bn (ah cs n.toNat))])) else none
   | none=>some (decide (0≤n∧n < len),.v (.ep (eN (n.toNat * esz) cs)))
  | .arr len esz _,p=>match xT (n.toNat * esz) p with
   | some q=>some (decide (0≤n∧n < len),q)
   | none=>none
  | _,_=>none
 | _,_=>none
def jG (E:Env) (t:TypeId) (x:SV) (j:Nat):Option SV:=
 match E.ti t with
 | some i=>match i.k with
  | .st fs=>match nth fs j with
   | some (o,sz,_)=>if Nat.ble 1 sz then xT o x else none
   | none=>none
  | _=>none
 | none=>none
def Cy (E:Env) (t:TypeId) (x:SV) (j:Nat):Option AV:=
 match E.ti t,x with
 | some i,.v (.agg cs)=>match i.k with
  | .st fs=>match nth fs j with
   | some (o,sz,ag)=>if ag then (match Em o sz cs with | some l=>rA true l | none=>none) else (match Em o 1 cs with | some l=>rA false l | none=>none)
   | none=>none
  | _=>none
 | _,_=>none
def Cz (E:Env) (t:TypeId) (x ix:SV):Option (Bool × AV):=
 match E.ti t,x,ix with
 | some i,.v (.str l),.v (.int _ n)=>match i.k with
  | .str=>some (decide (0≤n∧n < l.length),.int .u8 (l.getD n.toNat 0).toNat)
  | _=>none
 | some i,.v (.agg cs),.v (.int _ n)=>match i.k with
  | .arr len esz ag=>match (if ag then (match Em (n.toNat * esz) esz cs with | some l=>rA true l | none=>none) else (match Em (n.toNat * esz) 1 cs with | some l=>rA false l | none=>none)) with
   | some v=>some (decide (0≤n∧n < len),v)
   | none=>none
  | _=>none
 | _,_,_=>none
def zd (y:Nat):SV→Option (Bool × Nat)
 | .v (.int _ n)=>some (decide (0≤n∧n≤y),n.toNat)
 | _=>none
def cQ {α:Type} (lo hi:Nat) (l:List α):List α:=(l.take hi).drop lo
def lS (E:Env) (ae:a8):Option Operand→Option (Option SV)
 | none=>some none
 | some x=>some (some (bB E ae x))
def CA (len:Nat) (lo hi:Option SV):Option (Bool × Nat × Nat):=
 match (match hi with | none=>some (true,len) | some h=>zd len h) with
 | none=>none
 | some (c1,h)=>match (match lo with | none=>some (true,0) | some l=>zd h l) with
  | none=>none
  | some (c2,l)=>some (c1&&c2,l,h)
def U9 (agg:Bool) (l:List AV):AV:=match agg with
 | true=>.agg l
 | false=>dL l
def gl (agg:Bool) (sz:Nat):Nat→List AV→List AV
 | 0,_=>[]
 | n+1,cs=>U9 agg (cs.take sz) :: gl agg sz n (cs.drop sz)
def CB (ag:Bool) (e:AV):Bool:=e.aQ&&(ag || e.one)&&e.closed
def ze (E:Env) (t:TypeId) (x:SV) (lo hi:Option SV) (mx:Option Operand):Option (Bool × AV):=
 match E.ti t,mx with
 | some i,none=>match i.k,x with
  | .str,.v (.str l)=>match CA l.length lo hi with
   | some (c,a,b)=>some (c,.str (cQ a b l))
   | none=>none
  | .sl _ esz _ _ _,.v (.list k sz es)=>
   if Nat.beq sz esz || es.isEmpty then
    match CA es.length lo hi with
    | some (c,a,b)=>some (c,.list (match k with | .nil=>.nil | .full=>(match hi with | none=>.full | some _=>.ki) | _=>.ki) esz (cQ a b es))
    | none=>none
   else none
  | .sl _ esz _ _ _,.v (.jh id off sz len cap)=>
   if Nat.beq sz esz then
    match CA len lo hi with
    | some (c,a,b)=>some (c,.jh id (bif Nat.beq cap a then off else off+a * sz) sz (b - a) (cap - a))
    | none=>none
   else none
  | .sl _ esz _ _ _,.v (.dA id f off sz len)=>
   if Nat.beq sz esz then
    match CA len lo hi with
    | some (c,a,b)=>some (c,.dA id f (off+a) sz (b - a))
    | none=>none
   else none
  | .arr len esz ag,.v (.ep cs)=>match lo,hi with
   | none,none=>if Nat.ble (len * esz) cs.length&&Nat.ble 1 esz&&(ag || Nat.beq esz 1)&&allFit (CB ag) (gl ag esz len cs) then some (true,.list .full esz (gl ag esz len cs)) else none
   | _,_=>none
  | _,_=>none
 | _,_=>none
def Ho (G:List GO) (id n:Nat) (f sz:Nat) (e:TypeId):List GO:=aA G id (.tok (f+n) sz e)
def FI (fs:List Nat) (j n:Nat):List Nat:=bif Nat.beq j fs.length then fs++[n] else aA fs j n
def Lu (fs:List Nat) (j n:Nat):Bool:=decide (nth fs j=some n) || (Nat.beq j fs.length&&Nat.beq n 0)
def fu (G:List GO) (elem esz bu:Nat) (x:AV) (ys:List AV):Option (Bool × AV × List GO):=
 match x,ys with
 | .list k sz es,[]=>match k with
  | .nil=>some (true,.list .nil sz es,G)
  | k=>some (true,.list k sz es,G)
 | .list k sz es,y :: ys=>
  match k with
  | .nil=>some (decide ((es.length+(y :: ys).length) * bu≤140737488355328),.list (.own G.length) esz (es++(y :: ys)),G++[.tok (es.length+(y :: ys).length) esz elem])
  | .full=>if Nat.beq sz esz then some (decide ((es.length+(y :: ys).length) * bu≤140737488355328),.list (.own G.length) esz (es++(y :: ys)),G++[.tok (es.length+(y :: ys).length) esz elem]) else none
  | .own id=>match nth G id with
   | some (.tok f bI e')=>if Nat.beq bI esz&&Nat.beq e' elem&&Nat.beq sz esz then
     some (decide (f=es.length)&&decide ((es.length+(y :: ys).length) * bu≤140737488355328),.list (.own id) esz (es++(y :: ys)),Ho G id (y :: ys).length f esz elem) else none
   | _=>none
  | .ba id j=>match nth G id with
   | some (.ba fs bI e')=>if Nat.beq bI esz&&Nat.beq e' elem&&Nat.beq sz esz then
     some (Lu fs j es.length&&decide ((es.length+(y :: ys).length) * bu≤140737488355328),.list (.ba id j) esz (es++(y :: ys)),aA G id (.ba (FI fs j (es.length+(y :: ys).length)) esz elem)) else none
   | _=>none
  | .ki=>none
 | .dA id f off sz len,[]=>some (true,.dA id f off sz len,G)
 | .dA id f off sz len,y :: ys=>match nth G id with
  | some (.cS es bI e')=>if Nat.beq bI esz&&Nat.beq e' elem&&Nat.beq sz esz then
    some (decide (f=es.length)&&decide (off=0)&&decide (len=f)&&decide ((es.length+(y :: ys).length) * bu≤140737488355328),.dA id (es.length+(y :: ys).length) 0 esz (es.length+(y :: ys).length),aA G id (.cS (es++(y :: ys)) esz elem)) else none
  | _=>none
 | _,_=>none
def qc (b:UInt8):AV:=.int .u8 b.toNat
def gH (es:List AV):List UInt8:=es.map fun a=>UInt8.ofNat a.kj.toNat
def ux (es:List AV):List UInt8:=es.flatMap fun a=>(Utf8.encode a.kj).data.toList
def FJ:AV→List AV→Option AV
 | x,[]=>some x
 | .int k x,.int k' y :: l=>if k=k' then FJ (.int k (if y > x then y else x)) l else none
 | _,_=>none
def CC:AV→List AV→Option AV
 | x,[]=>some x
 | .int k x,.int k' y :: l=>if k=k' then CC (.int k (if y < x then y else x)) l else none
 | .str x,.str y :: l=>CC (.str (bif Op.bytesLess x y || x == y then x else y)) l
 | _,_=>none
def ar:List AV→List AV
 | []=>[]
 | e :: es=>e.cells++ar es
def qd (s:St) (esz:Nat) (d x:AV):Option (Nat × List GO):=
 match d with
 | .jh id off sz len _=>match nth s.G id with
  | some (.row cs el)=>
   if Nat.beq sz esz then
    match x with
    | .list _ bI es=>if Nat.beq bI esz || es.isEmpty then
      let n:=Nat.min es.length len
      let l:=ar (es.take n)
      if Nat.ble (off+l.length) cs.length then some (n,aA s.G id (.row (a7 cs off l) el)) else none
     else none
    | .str bs=>
      if Nat.beq esz 1&&Nat.ble (off+(bs.take (Nat.min bs.length len)).length) cs.length then some (Nat.min bs.length len,aA s.G id (.row (a7 cs off ((bs.take (Nat.min bs.length len)).map qc)) el)) else none
    | .jh iS eY bI CD _=>match nth s.G iS with
     | some (.row cs' _)=>
      let n:=Nat.min CD len
      match Em eY (n * esz) cs' with
      | some l=>if Nat.beq bI esz&&Nat.ble (off+l.length) cs.length then some (n,aA s.G id (.row (a7 cs off l) el)) else none
      | none=>none
     | _=>none
    | _=>none
   else none
  | _=>none
 | .dA id f off sz len=>match nth s.G id,x with
  | some (.cS es bI el),.list _ YL xs=>if Nat.beq sz esz&&Nat.beq bI sz&&(Nat.beq YL esz || xs.isEmpty)&&Nat.ble f es.length&&Nat.ble es.length f&&Nat.ble (off+Nat.min xs.length len) es.length then
    some (Nat.min xs.length len,aA s.G id (.cS (a7 es off (xs.take (Nat.min xs.length len))) bI el)) else none
  | _,_=>none
 | _=>none
def bN (E:Env) (s:St) (dst:Option Tmp) (b:Builtin) (args:List AV) (tys:List TypeId):Option (Bool × St):=
 match b,args with
 | .len,[x]=>match tys with
  | t :: _=>match E.ti t with
   | some i=>match i.k,x with
    | .str,.str l=>some (true,s.put dst (.v (.int .i64 l.length)))
    | .sl ..,.list _ _ es=>some (true,s.put dst (.v (.int .i64 es.length)))
    | .sl ..,.jh _ _ _ len _=>some (true,s.put dst (.v (.int .i64 len)))
    | .sl ..,.dA _ _ _ _ len=>some (true,s.put dst (.v (.int .i64 len)))
    | .arr n _ _,_=>some (true,s.put dst (.v (.int .i64 n)))
    | .map ..,.jE=>some (true,s.put dst (.v (.int .i64 0)))
    | .map ..,.map id=>match nth s.G id with
     | some (.map es)=>some (true,s.put dst (.v (.int .i64 es.length)))
     | _=>none
    | _,_=>none
   | none=>none
  | _=>none
 | .append,[x,.list _ sz ys]=>match tys with
  | [t,u]=>match E.ti t with
   | some i=>match i.k with
    | .sl elem esz _ bu (some z)=>
     if (Nat.beq sz esz || ys.isEmpty)&&Nat.beq t u&&Nat.ble 1 esz&&Nat.ble 1 bu&&Nat.beq z.cells.length esz&&z.aQ then
      match fu s.G elem esz bu x ys with
      | some (c,v,G')=>some (c,(s.bW G').put dst (.v v))
      | none=>none
     else none
    | _=>none
   | none=>none
  | _=>none
 | .append,[x,.str bs]=>match tys with
  | [t,u]=>match E.ti t,E.ti u with
   | some i,some j=>match i.k,j.k with
    | .sl elem esz _ bu (some z),.str=>
     if Nat.beq esz 1&&Nat.ble 1 bu&&Nat.beq z.cells.length esz&&z.aQ then
      match fu s.G elem esz bu x (bs.map qc) with
      | some (c,v,G')=>some (c,(s.bW G').put dst (.v v))
      | none=>none
     else none
    | _,_=>none
   | _,_=>none
  | _=>none
 | .copy,[d,x]=>match tys with
  | t :: _=>match E.ti t with
   | some i=>match i.k with
    | .sl _ esz _ _ _=>match qd s esz d x with
     | some (n,G')=>some (true,(s.bW G').put dst (.v (.int .i64 n)))
     | none=>none
    | _=>none
   | none=>none
  | _=>none
 | .clear,[x]=>match dst,tys,x with
  | none,[t],.dA id f off sz len=>match E.ti t,nth s.G id with
   | some i,some (.cS es bI el)=>match i.k with
    | .sl elem esz _ _ (some z)=>if Nat.beq sz esz&&Nat.beq bI sz&&Nat.beq el elem&&Nat.beq z.cells.length esz&&z.aQ&&z.closed then
      some (decide (f=es.length)&&decide (off+len≤es.length),s.bW (aA s.G id (.cS (a7 es off (List.replicate len z)) bI el))) else none
    | _=>none
   | _,_=>none
  | _,_,_=>none
 | .max,x :: l=>match FJ x l with
  | some v=>some (true,s.put dst (.v v))
  | none=>none
 | .min,x :: l=>match CC x l with
  | some v=>some (true,s.put dst (.v v))
  | none=>none
 | _,_=>none
def EK.plain:EK→Bool
 | .bool | .int | .str=>true
 | .st _=>true
 | _=>false
def EK.wide:EK→Bool
 | .st _=>true
 | _=>false
def fX:AV→Bool
 | .bool _=>true
 | .int _ _=>true
 | .str _=>true
 | _=>false
def mU:AV→AV→Bool
 | .bool a,.bool b=>a == b
 | .int k a,.int l b=>decide (k=l)&&a == b
 | .str a,.str b=>a == b
 | _,_=>false
def li:List AV→List AV→Bool
 | [],[]=>true
 | a :: l,b :: r=>mU a b&&li l r
 | _,_=>false
def ku:AV→AV→Bool
 | .agg xs,.agg ys=>li xs ys
 | _,_=>false
def Cp (e:EK) (a b:AV):Option Bool:=match km e a b with
 | some true=>bif e.wide&&!ku a b then none else some true
 | r=>r
def hJ (e:EK) (k:AV):List (AV × AV)→Option (Option AV)
 | []=>some none
 | (k',v) :: l=>match Cp e k k' with
  | some true=>some (some v)
  | some false=>hJ e k l
  | none=>none
def rC (e:EK) (k v:AV):List (AV × AV)→Option (List (AV × AV))
 | []=>some [(k,v)]
 | (k',v') :: l=>match Cp e k k' with
  | some true=>some ((k,v) :: l)
  | some false=>match rC e k v l with
   | some r=>some ((k',v') :: r)
   | none=>none
  | none=>none
def gI:EK→AV→Bool
 | .bool,.bool _=>true
 | .int,.int _ _=>true
 | .str,.str _=>true
 | .st fs,.agg cs=>cs.all fX&&(rB fs cs cs).isSome
 | _,_=>false
def mapOf (s:St):SV→Option (List (AV × AV))
 | .v .jE=>some []
 | .v (.map id)=>match nth s.G id with
  | some (.map es)=>some es
  | _=>none
 | _=>none
def kK (G:List GO) (id:Nat):List Nat:=match nth G id with
 | some (.ba fs _ _)=>fs
 | _=>[]
def AL (E:Env) (G:List GO) (t:TypeId) (z:AV):AV:=match E.XR t,z with
 | some (.ba e sz _),.list .nil _ []=>match iu G sz e 0 with
  | some id=>.list (.ba id (kK G id).length) sz []
  | none=>z
 | _,_=>z
def iy (E:Env) (s:St) (t:TypeId) (m k:SV):Option (AV × Bool):=match E.ti t,mapOf s m,k with
 | some i,some es,.v k=>match i.k with
  | .map kt _ (some z)=>match E.ti kt with
   | some j=>if j.ek.plain&&gI j.ek k then match hJ j.ek k es with
     | some (some v)=>some (v,true)
     | some none=>some (z,false)
     | none=>none
    else none
   | none=>none
  | _=>none
 | _,_,_=>none
def kv (E:Env) (s:St) (t:TypeId) (m k:SV):Option (AV × Bool):=match iy E s t m k with
 | some (v,false)=>some (AL E s.G t v,false)
 | r=>r
def eu (E:Env) (s:St) (t:TypeId) (m k x:SV):Option St:=match E.ti t,m,k,x with
 | some i,.v (.map id),.v k,.v x=>match i.k,nth s.G id with
  | .map kt _ _,some (.map es)=>match E.ti kt with
   | some j=>if j.ek.plain&&gI j.ek k then match rC j.ek k x es with
     | some es'=>some (s.bW (aA s.G id (.map es')))
     | none=>none
    else none
   | none=>none
  | _,_=>none
 | _,_,_,_=>none
def oe (l:List UInt8) (pos:Nat):Nat × Nat:=
 bif Nat.blt (l.getD pos 0).toNat 128 then ((l.getD pos 0).toNat,1) else Utf8.decode ⟨⟨l⟩⟩ pos
def kw (s:St) (dst:Option Tmp) (x:SV):Option St:=match x with
 | .v (.ptr id 0)=>match nth s.G id with
  | some (.fG l pos)=>bif Nat.blt pos l.length then
    match oe l pos with
    | (c,n)=>some ((s.bW (aA s.G id (.fG l (pos+n)))).put dst (.v (.bf [.bool true,.int .i64 pos,.int .i32 c])))
   else some (s.put dst (.v (.bf [.bool false])))
  | _=>none
 | _=>none
def dD (es:List (AV × AV)) (i:Nat):AV × AV:=match nth es i with
 | some e=>e
 | none=>(eX,eX)
def QT (E:Env) (kt:TypeId):Option aj:=match E.PR kt with
 | some p=>some p
 | none=>match E.ti kt with
  | some i=>match i.k with
   | .int k=>some (.int k)
   | .str=>some .str
   | _=>none
  | none=>none
def qe (E:Env) (t:TypeId) (e:AV × AV):Bool × AV × AV:=match E.ti t with
 | some i=>match i.k with
  | .map kt _ _=>match E.PR t,QT E kt with
   | some pv,some pk=>(pk.fits e.1&&pv.fits e.2,pk.enc (pk.bn e.1),pv.enc (pv.bn e.2))
   | _,_=>(true,e.1,e.2)
  | _=>(true,e.1,e.2)
 | none=>(true,e.1,e.2)
def xW (E:Env) (s:St) (dst:Option Tmp) (x:SV):Option (Bool × St × List Nat × (Nat→Bool × St)):=match x with
 | .v (.ptr id 0)=>match nth s.G id with
  | some (.mJ pt n left _ t)=>match nth s.G pt with
   | some (.map es)=>some (decide (es.length=n),s.put dst (.v (.bf [.bool false])),left,
     fun i=>((qe E t (dD es i)).1,(s.bW (aA s.G id (.mJ pt n (left.erase i) (some i) t))).put dst (.v (.bf [.bool true,(qe E t (dD es i)).2.1,(qe E t (dD es i)).2.2]))))
   | _=>none
  | _=>none
 | _=>none
def rD (E:Env) (s:St) (o:Oper):Option (Bool × St × List Nat × (Nat→Bool × St)):=match o.op with
 | .next x false=>xW E s o.dst (bB E s.ae x)
 | _=>none
def YM (E:Env) (op:BinOp) (t:TypeId) (a b:AV):Option Bool:=match op,E.ti t with
 | .eql,some i=>km i.ek a b
 | .neq,some i=>match km i.ek a b with
  | some r=>some (!r)
  | none=>none
 | _,_=>none
def ji (E:Env) (s:St) (t:TypeId) (len:Nat) (parts:List (Nat × Operand)):Option (List AV):=
 match E.ti t,La E s.ae parts with
 | some i,some ps=>match i.k with
  | .sl _ esz _ _ (some z)=>
    if Nat.beq z.cells.length esz&&Nat.ble 1 esz&&Nat.ble (len * esz) 16777216&&z.aQ then
     sH (fun i=>some (i * esz,esz)) (ar (List.replicate len z)) (xU ps)
    else none
  | _=>none
 | _,_=>none
def iz (E:Env) (f:FuncId) (s:St) (o:Oper):Option St:=match o.op with
 | .buildSlice t len parts=>match o.dst with
  | some d=>if E.xl f d then match E.ti t with
    | some i=>match i.k,bX E s t len parts.toList with
     | .sl elem _ _ _ _,some (.list _ esz es)=>some ((s.dC (.row (ar es) elem)).put (some d) (.v (.jh s.G.length 0 esz len len)))
     | .sl elem esz _ _ _,none=>match ji E s t len parts.toList with
      | some cs=>some ((s.dC (.row cs elem)).put (some d) (.v (.jh s.G.length 0 esz len len)))
      | none=>none
     | _,_=>none
    | none=>none
   else if E.xl f (d+196608) then match E.ti t with
    | some i=>match i.k,bX E s t len parts.toList with
     | .sl elem _ _ _ _,some (.list _ esz es)=>if Nat.ble len 65536 then some ((s.dC (.cS es esz elem)).put (some d) (.v (.dA s.G.length len 0 esz len))) else none
     | _,_=>none
    | none=>none
   else if E.xl f (d+65536) then match E.ti t with
    | some i=>match i.k,bX E s t len parts.toList with
     | .sl elem _ _ _ _,some (.list _ esz es)=>if Nat.ble len 65536 then some ((s.dC (.tok len esz elem)).put (some d) (.v (.list (.own s.G.length) esz es))) else none
     | _,_=>none
    | none=>none
   else none
  | none=>none
 | _=>none
def xX (wk:Bool) (es:List AV):List AV:=match wk with
 | true=>es.map AV.fM
 | false=>es
def lj (wk:Bool):List AV→List GO→Bool × List AV × List GO
 | [],G=>(true,[],G)
 | .dA id f 0 sz len :: l,G=>match nth G id with
  | some (.cS es bI _)=>match lj wk l (aA G id .dead) with
   | (c,r,G')=>(decide (f=es.length)&&decide (len=es.length)&&Nat.beq sz bI&&aB (xX wk es)&&c,.list .ki sz (xX wk es) :: r,G')
  | _=>match lj wk l G with
   | (_,r,G')=>(false,r,G')
 | a :: l,G=>match lj wk l G with
  | (c,r,G')=>(c,a :: r,G')
def og (cut wk:Bool) (s:St) (t:Tmp):Option (Bool × St):=match lk s.ae t with
 | .v (.dA id f off sz len)=>match nth s.G id with
  | some (.cS es bI _)=>if Nat.beq off 0&&Nat.beq sz bI then
    some (decide (f=es.length)&&(bif cut then decide (len≤es.length) else decide (len=es.length))&&aB (xX wk es),⟨.put t (.v (.list .ki sz (xX wk (bif cut then es.take len else es)))) :: s.ae,s.boxes,aA s.G id .dead,s.marks,s.ro,s.n⟩) else none
  | _=>none
 | .v (.ptr id 0)=>match nth s.G id with
  | some (.row cs _)=>some (aB cs,⟨.put t (.v (.ep cs)) :: s.ae,s.boxes,aA s.G id .dead,s.marks,s.ro,s.n⟩)
  | _=>none
 | .v (.agg cs)=>match lj wk cs s.G with
  | (c,cs',G')=>some (c,⟨.put t (.v (.agg cs')) :: s.ae,s.boxes,G',s.marks,s.ro,s.n⟩)
 | _=>none
def fY (cut wk:Bool):List Operand→St→Bool × St
 | [],s=>(true,s)
 | .tmp t :: l,s=>match og cut wk s t with
  | some (c,s')=>match fY cut wk l s' with
   | (c',s2)=>(c&&c',s2)
  | none=>fY cut wk l s
 | _ :: l,s=>fY cut wk l s
def FK (E:Env) (f:FuncId) (s:St) (o:Oper):Option (Bool × St):=match o.dst with
 | some d=>if E.xl f (d+262144) then some (fY (E.xl f (d+393216)) (E.xl f (d+458752)) o.op.operands.toList s) else none
 | none=>none
def lm (E:Env) (s:St) (a b:TypeId) (x:SV):Option (Bool × AV):=
 match E.ti a,E.ti b,x with
 | some i,some j,.v x=>match j.k,x with
  | .int k,.int _ n=>some (true,.int k (k.wrap n))
  | .str,.list _ sz es=>match i.k with
   | .sl elem 1 _ _ _=>match E.ti elem with
    | some e=>match e.k with
     | .int .u8=>some ((Nat.beq sz 1 || es.isEmpty)&&allFit (aj.fits (.int .u8)) es,.str (gH es))
     | .int .i32=>some ((Nat.beq sz 1 || es.isEmpty)&&allFit (aj.fits (.int .i32)) es,.str (ux es))
     | _=>none
    | none=>none
   | _=>none
  | .str,.jh id off 1 len _=>match i.k,nth s.G id with
   | .sl elem 1 _ _ _,some (.row cs _)=>match E.ti elem with
    | some e=>match e.k with
     | .int .u8=>some (Nat.ble (off+len) cs.length&&allFit (aj.fits (.int .u8)) (cQ off (off+len) cs),.str (gH (cQ off (off+len) cs)))
     | _=>none
    | none=>none
   | _,_=>none
  | _,_=>none
 | _,_,_=>none
def FL (id sz:Nat):List AV→List Nat→Option (List AV × List Nat)
 | [],fs=>some ([],fs)
 | .list .nil _ [] :: l,fs=>match FL id sz l (fs++[0]) with
  | some (r,zf)=>some (.list (.ba id fs.length) sz [] :: r,zf)
  | none=>none
 | .list .full bI es :: l,fs=>if Nat.beq sz bI then match FL id sz l (fs++[es.length]) with
   | some (r,zf)=>some (.list (.ba id fs.length) sz es :: r,zf)
   | none=>none
  else none
 | _ :: _,_=>none
def tU (e:EK) (k k':AV):Bool:=match Cp e k k' with
 | some b=>b
 | none=>false
def eB (e:EK) (k:AV):List (AV × AV)→Bool
 | []=>true
 | (k',_) :: l=>(Cp e k k').isSome&&eB e k l
def eC (e:EK) (k:AV):List (AV × AV)→Option AV
 | []=>none
 | (k',v) :: l=>bif tU e k k' then some v else eC e k l
def dE (e:EK) (k v:AV):List (AV × AV)→List (AV × AV)
 | []=>[(k,v)]
 | (k',v') :: l=>bif tU e k k' then (k,v) :: l else (k',v') :: dE e k v l
def cg (e:EK) (k z:AV) (es:List (AV × AV)):AV:=(eC e k es).getD z
def fN (e:EK) (k:AV):List (AV × AV)→Nat
 | []=>0
 | (k',_) :: l=>bif tU e k k' then 0 else fN e k l+1
def gJ:List (AV × AV)→Nat→AV→List (AV × AV)
 | [],_,_=>[]
 | (k,_) :: l,0,x=>(k,x) :: l
 | e :: l,n+1,x=>e :: gJ l n x
def rE (E:Env) (s:St) (x:SV):Option (Bool × AV):=match x with
 | .v (.ptr id 0)=>match nth s.G id with
  | some (.mJ pt n _ (some i) t)=>match nth s.G pt with
   | some (.map es)=>some (decide (es.length=n)&&decide (i < n)&&(qe E t (dD es i)).1,.bf [(qe E t (dD es i)).2.1,(qe E t (dD es i)).2.2])
   | _=>none
  | _=>none
 | _=>none
def fw (E:Env) (s:St) (t:TypeId) (m k:SV):Option (Bool × AV × St):=match E.ti t,m,k with
 | some i,.v (.map id),.v k=>match i.k,nth s.G id with
  | .map kt _ (some z),some (.map es)=>match E.ti kt with
   | some j=>if j.ek.plain&&gI j.ek k then
     some (eB j.ek k es,.bf [cg j.ek k z es,.int .i64 (fN j.ek k es:Nat)],s.bW (aA s.G id (.map (dE j.ek k (cg j.ek k z es) es)))) else none
   | none=>none
  | _,_=>none
 | _,_,_=>none
def dM (s:St) (m st x:SV):Option (Bool × St):=match m,st,x with
 | .v (.map id),.v (.int .i64 n),.v v=>match nth s.G id with
  | some (.map es)=>some (decide (0≤n)&&decide (n.toNat < es.length),s.bW (aA s.G id (.map (gJ es n.toNat v))))
  | _=>none
 | _,_,_=>none
def fO (E:Env) (f:FuncId) (s:St) (o:Oper):Option (Bool × St):=match o.dst with
 | some d=>if E.xl f (d+524288) then match o.op with
   | .call { callee:=.builtin .append,args,argTypes }=>match kZ E s.ae args.toList,argTypes.toList with
    | some [.dA id g off sz len,.list k szy (y :: ys)],[t,u]=>match E.ti t with
     | some i=>match i.k with
      | .sl elem esz _ bu (some z)=>match E.ti elem with
       | some j=>match j.k with
        | .sl e2 mS _ _ _=>match iu s.G mS e2 0 with
         | some kh=>match FL kh mS (y :: ys) (kK s.G kh),nth s.G id with
          | some (FM,zf),some (.cS es bI e')=>
           if Nat.beq szy esz&&Nat.beq bI esz&&Nat.beq e' elem&&Nat.beq sz esz&&Nat.beq t u&&Nat.ble 1 esz&&Nat.ble 1 bu&&Nat.beq z.cells.length esz&&z.aQ then
            some (decide (g=es.length)&&decide (off=0)&&decide (len=g)&&decide ((es.length+(y :: ys).length) * bu≤140737488355328),
             (s.bW (aA (aA s.G kh (.ba zf mS e2)) id (.cS (es++FM) esz elem))).put o.dst (.v (.dA id (es.length+(y :: ys).length) 0 esz (es.length+(y :: ys).length))))
           else none
          | _,_=>none
         | none=>none
        | _=>none
       | none=>none
      | _=>none
     | none=>none
    | _,_=>none
   | _=>none
  else none
 | none=>none
def sI (E:Env) (f:FuncId) (s:St) (o:Oper):Option (Bool × St):=match o.dst with
 | some d=>if E.xl f (d+524288) then match o.op with
   | .lookup t m k ok=>match E.XR t,E.ti t,bB E s.ae m,bB E s.ae k with
    | some (.ba e sz p),some i,.v (.map id),.v k=>match i.k,nth s.G id with
     | .map kt _ (some (.list .nil _ [])),some (.map es)=>match E.ti kt,iu s.G sz e 0 with
      | some j,some kh=>if j.ek.plain&&gI j.ek k then
        some (eB j.ek k es&&(aj.ba kh sz p).fits (cg j.ek k (.list (.ba kh (kK s.G kh).length) sz []) es),
         (s.bW (aA s.G kh (.ba (kK s.G kh++[0]) sz e))).put o.dst (.v (if ok then .bf [(aj.ba kh sz p).enc ((aj.ba kh sz p).bn (cg j.ek k (.list (.ba kh (kK s.G kh).length) sz []) es)),.bool (eC j.ek k es).isSome]
          else (aj.ba kh sz p).enc ((aj.ba kh sz p).bn (cg j.ek k (.list (.ba kh (kK s.G kh).length) sz []) es)))))
       else none
      | _,_=>none
     | _,_=>none
    | _,_,_,_=>none
   | _=>none
  else none
 | none=>none
def YN (E:Env) (f:FuncId) (d:Option Tmp):Bool:=match d with
 | some d=>E.xl f (d+196608)
 | none=>false
def ap (E:Env) (f:FuncId) (s:St) (o:Oper):Option (Bool × St):=
 match o.op with
 | .move x=>match bB E s.ae x with
  | .v a=>some (true,s.put o.dst (.v a))
  | .lp k off=>some (true,s.put o.dst (.lp k off))
  | .none=>some (true,s.put o.dst .none)
 | .assign x=>match bB E s.ae x with
  | .v a=>some (true,s.put o.dst (.v a))
  | .lp k off=>some (true,s.put o.dst (.lp k off))
  | .none=>some (true,s.put o.dst .none)
 | .pick c a b=>match bB E s.ae c,bB E s.ae a,bB E s.ae b with
  | .v (.bool t),.v x,.v y=>some (true,s.put o.dst (.v (zb t x y)))
  | _,_,_=>none
 | .alloc e=>match E.ti e with
  | some i=>match i.zero with
   | some z=>if z.aQ then er E f s o.dst e z.cells else none
   | none=>none
  | none=>none
 | .box t x=>match bB E s.ae x with
  | .v v=>if v.aQ then er E f s o.dst t v.cells else none
  | _=>none
 | .build t parts=>match lR E s t parts.toList with
  | some v=>some (true,s.put o.dst (.v v))
  | none=>none
 | .buildSlice t len parts=>match bX E s t len parts.toList with
  | some v=>some (true,s.put o.dst (.v v))
  | none=>none
 | .load t a=>match xV E s t (bB E s.ae a) with
  | some (c,v)=>some (c,s.put o.dst (.v v))
  | none=>none
 | .store t a x=>match o.dst,iV E s t (bB E s.ae a) (bB E s.ae x) with
  | none,some (c,s')=>some (c,s')
  | _,_=>none
 | .binOp op t x y _=>match bB E s.ae x,bB E s.ae y with
  | .v a,.v b=>match AJ op a b with
   | some (c,v)=>some (c,s.put o.dst (.v v))
   | none=>match YM E op t a b with
    | some r=>some (true,s.put o.dst (.v (.bool r)))
    | none=>none
  | _,_=>none
 | .unOp op _ x=>match op,bB E s.ae x with
  | .not,.v (.bool b)=>some (true,s.put o.dst (.v (.bool (!b))))
  | .neg,.v (.int k n)=>some (true,s.put o.dst (.v (.int k (k.wrap (0 - n)))))
  | _,_=>none
 | .convert a b x=>match lm E s a b (bB E s.ae x) with
  | some (c,v)=>some (c,s.put o.dst (.v v))
  | none=>none
 | .nilCheck x=>match bB E s.ae x with
  | .v (.ptr id off)=>some (true,s.put o.dst (.v (.ptr id off)))
  | .lp k off=>some (true,s.put o.dst (.lp k off))
  | _=>none
 | .makeFunc (.func g) first captured=>match kZ E s.ae first.toList,kZ E s.ae captured.toList with
  | some x,some y=>some (true,s.put o.dst (.v (.fn g x y)))
  | _,_=>none
 | .fieldAddr t x j=>match jG E t (bB E s.ae x) j with
  | some p=>some (true,s.put o.dst p)
  | none=>none
 | .field t x j=>match Cy E t (bB E s.ae x) j with
  | some v=>some (true,s.put o.dst (.v v))
  | none=>none
 | .indexAddr t x ix=>match jF E t (bB E s.ae x) (bB E s.ae ix) with
  | some (c,p)=>some (c,s.put o.dst p)
  | none=>none
 | .index t x ix=>match Cz E t (bB E s.ae x) (bB E s.ae ix) with
  | some (c,v)=>some (c,s.put o.dst (.v v))
  | none=>none
 | .slice t x lo hi mx=>match lS E s.ae lo,lS E s.ae hi with
  | some l,some h=>match ze E t (bB E s.ae x) l h mx with
   | some (c,v)=>some (c,s.put o.dst (.v v))
   | none=>none
  | _,_=>none
 | .extract x i=>match bB E s.ae x with
  | .v (.bf vs)=>match nth vs i with
   | some v=>some (true,s.put o.dst (.v v))
   | none=>none
  | _=>none
 | .makeSlice t l c=>match E.ti t,bB E s.ae l,bB E s.ae c with
  | some i,.v (.int _ n),.v (.int _ m)=>match i.k with
   | .sl elem esz _ bu (some z)=>
    if Nat.beq z.cells.length esz&&Nat.ble 1 esz&&z.aQ then
     if YN E f o.dst then (if z.closed then some (decide (0≤n∧n≤m∧m≤140737488355328∧m * bu≤140737488355328),
      (s.dC (.cS (List.replicate n.toNat z) esz elem)).put o.dst (.v (.dA s.G.length n.toNat 0 esz n.toNat))) else none)
     else some (decide (0≤n∧n≤m∧m≤140737488355328∧m * bu≤140737488355328),
      (s.dC (.row (ar (List.replicate m.toNat z)) elem)).put o.dst (.v (.jh s.G.length 0 esz n.toNat m.toNat)))
    else none
   | _=>none
  | _,_,_=>none
 | .lookup t m k ok=>match kv E s t (bB E s.ae m) (bB E s.ae k) with
  | some (v,b)=>some (true,s.put o.dst (.v (if ok then .bf [v,.bool b] else v)))
  | none=>none
 | .mapUpdate t m k x=>match o.dst,eu E s t (bB E s.ae m) (bB E s.ae k) (bB E s.ae x) with
  | none,some s'=>some (true,s')
  | _,_=>none
 | .insert t m k x=>match o.dst,eu E s t (bB E s.ae m) (bB E s.ae k) (bB E s.ae x) with
  | none,some s'=>some (true,s')
  | _,_=>none
 | .entry x=>match rE E s (bB E s.ae x) with
  | some (c,v)=>some (c,s.put o.dst (.v v))
  | none=>none
 | .mapEntry t m k=>match fw E s t (bB E s.ae m) (bB E s.ae k) with
  | some (c,v,s')=>some (c,s'.put o.dst (.v v))
  | none=>none
 | .entryStore _ m st x=>match o.dst,dM s (bB E s.ae m) (bB E s.ae st) (bB E s.ae x) with
  | none,some (c,s')=>some (c,s')
  | _,_=>none
 | .range t x=>match E.ti t,bB E s.ae x with
  | some i,.v (.str l)=>match i.k with
   | .str=>some (true,(s.dC (.fG l 0)).put o.dst (.v (.ptr s.G.length 0)))
   | _=>none
  | some i,.v (.map id)=>match i.k,nth s.G id with
   | .map _ _ _,some (.map es)=>some (true,(s.dC (.mJ id es.length (List.range es.length) none t)).put o.dst (.v (.ptr s.G.length 0)))
   | _,_=>none
  | _,_=>none
 | .next x true=>match kw s o.dst (bB E s.ae x) with
  | some s'=>some (true,s')
  | none=>none
 | .makeMap _ none=>some (true,(s.dC (.map [])).put o.dst (.v (.map s.G.length)))
 | .call { callee:=.builtin b,args,argTypes }=>match fO E f s o with
  | some r=>some r
  | none=>match kZ E s.ae args.toList with
   | some l=>bN E s o.dst b l argTypes.toList
   | none=>none
 | _=>none
end Go.Am
namespace Go.Am
open Go
inductive TR where
 | bC
 | full (f:Nat)
 | tok (f b c:Nat)
inductive RO where
 | none
 | bC
 | bU (b:Nat)
 | tok (f b c:Nat)
 | ba (ts:List TR)
def RO.has:RO→Nat→Prop
 | .none,_=>False
 | .bC,_=>False
 | .bU b,x=>x=b
 | .tok _ b _,x=>x=b
 | .ba ts,x=>∃ j f c,nth ts j=some (.tok f x c)
def iA (sz:Nat) (es:List AV):Prop:=∀ e∈es,e.cells.length=sz∧e.aQ=true∧e.closed=true
def dp (sz:Nat) (es:List AV):Prop:=∀ e∈es,e.cells.length=sz∧e.aQ=true
theorem iA.g {sz:Nat} {es:List AV} (h:iA sz es):dp sz es:=fun e he=>⟨(h e he).1,(h e he).2.1⟩
structure ak where
 I:Nat→Nat→Prop
 obj:List RO
def PT (b o len cap:Nat):RO→Prop
 | .none=>True
 | .bC=>False
 | .bU _=>False
 | .tok f b' c'=>len≤f∧(len=f→b=b'∧o=0∧cap=c')
 | .ba _=>False
def Lv (b o len cap:Nat):TR→Prop
 | .bC=>False
 | .full f=>len≤f∧(len=f→cap=len)
 | .tok f b' c'=>len≤f∧(len=f→b=b'∧o=0∧cap=c')
def Va (b o len cap j:Nat):RO→Prop
 | .none=>True
 | .bC=>False
 | .bU _=>False
 | .tok _ _ _=>False
 | .ba ts=>∃ t,nth ts j=some t∧Lv b o len cap t
def rF:RO→Prop
 | .none=>True
 | .bC=>False
 | .bU _=>False
 | .tok _ _ _=>False
 | .ba _=>True
def lT:RO→Prop
 | .none=>True
 | .bC=>True
 | .bU _=>False
 | .tok f _ _=>1≤f
 | .ba _=>False
def FN (b o f off sz cap:Nat):RO→Prop
 | .none=>True
 | .bC=>False
 | .bU _=>False
 | .tok f' b' c'=>f≤f'∧(f=f'→b=b'∧off+cap=c'∧(o=off * sz∨cap=0))
 | .ba _=>False
def Hp (b o f i off sz:Nat):RO→Prop
 | .none=>True
 | .bC=>False
 | .bU _=>False
 | .tok f' b' _=>f≤f'∧(f=f'→b=b'∧o=i * sz+off)
 | .ba _=>False
def zg (R:ak) (k:LK) (b o len cap:Nat):Prop:=match k with
 | .nil=>False
 | .full=>cap=len
 | .ki=>True
 | .own id=>∃ ro,nth R.obj id=some ro∧PT b o len cap ro
 | .ba id j=>∃ ro,nth R.obj id=some ro∧Va b o len cap j ro
mutual
inductive Rel (R:ak) (w:World):AV→Value→Prop
 | bool (b:Bool):Rel R w (.bool b) (.bool b)
 | int (k:IntKind) (n:Int):Rel R w (.int k n) (.int k n)
 | str (l:List UInt8):Rel R w (.str l) (.string ⟨⟨l⟩⟩)
 | agg {cs:List AV} {vs:List Value} (h:aH R w cs vs) (h1:∀ v∈vs,v.oneCell'=true):Rel R w (.agg cs) (.agg ⟨vs⟩)
 | bf {cs:List AV} {vs:List Value} (h:aH R w cs vs):Rel R w (.bf cs) (.tuple ⟨vs⟩)
 | gG:Rel R w .gG (.pointer none)
 | ptr {id off b:Nat} (h:nth R.obj id=some (.bU b)):Rel R w (.ptr id off) (.pointer (some ⟨b,off,none⟩))
 | ep {cs:List AV} {b o:Nat} (h:dx R w b o cs):Rel R w (.ep cs) (.pointer (some ⟨b,o,none⟩))
 | jj {sz:Nat}:Rel R w (.list .nil sz []) (.slice none 0 0)
 | hY {sz:Nat}:Rel R w (.list .ki sz []) (.slice none 0 0)
 | lU {sz:Nat} {a:Addr}:Rel R w (.list .ki sz []) (.slice (some a) 0 0)
 | ln {id sz:Nat} {ro:RO} (h:nth R.obj id=some ro) (ho:lT ro):Rel R w (.list (.own id) sz []) (.slice none 0 0)
 | kL {id j sz:Nat} {ro:RO} (h:nth R.obj id=some ro) (ho:rF ro):Rel R w (.list (.ba id j) sz []) (.slice none 0 0)
 | list {k:LK} {sz:Nat} {es:List AV} {b o len cap:Nat} (h:fx R w b o sz es) (hl:len=es.length) (hc:len≤cap) (hk:zg R k b o len cap):Rel R w (.list k sz es) (.slice (some ⟨b,o,none⟩) len cap)
 | jh {id off sz len cap b:Nat} (h:nth R.obj id=some (.bU b)) (hc:len≤cap):Rel R w (.jh id off sz len cap) (.slice (some ⟨b,off,none⟩) len cap)
 | iB {id sz:Nat} {ro:RO} (h:nth R.obj id=some ro) (ho:lT ro):Rel R w (.dA id 0 0 sz 0) (.slice none 0 0)
 | dA {id f off sz len cap b o:Nat} {ro:RO} (h:nth R.obj id=some ro) (ho:FN b o f off sz cap ro) (hc:len≤cap):Rel R w (.dA id f off sz len) (.slice (some ⟨b,o,none⟩) len cap)
 | gp {id f i off sz b o:Nat} {t:TypeId} {ro:RO} (h:nth R.obj id=some ro) (ho:Hp b o f i off sz ro):Rel R w (.gp id f i off sz t) (.pointer (some ⟨b,o,none⟩))
 | jE:Rel R w .jE (.map none)
 | map {id b:Nat} (h:nth R.obj id=some (.bU b)):Rel R w (.map id) (.map (some b))
 | cm:Rel R w .cm .nilFunc
 | fn {f:FuncId} {xs ys:List AV} {vs us:List Value} (h:aH R w xs vs) (h':aH R w ys us):Rel R w (.fn f xs ys) (.func (.func f) ⟨vs⟩ ⟨us⟩)
 | yield {id b:Nat} (h:nth R.obj id=some (.bU b)):Rel R w (.yield id) (.func (.yield b) #[] #[])
 | mN:Rel R w .mN .nilIface
 | iface {t:TypeId} {v:AV} {c:Value} (h:Rel R w v c):Rel R w (.iface t v) (.iface t c)
inductive aH (R:ak) (w:World):List AV→List Value→Prop
 | nil:aH R w [] []
 | cons {a:AV} {c:Value} {l:List AV} {cs:List Value} (h:Rel R w a c) (t:aH R w l cs):aH R w (a :: l) (c :: cs)
inductive fx (R:ak) (w:World):Nat→Nat→Nat→List AV→Prop
 | nil {b o sz:Nat}:fx R w b o sz []
 | cons {b o sz:Nat} {e:AV} {es:List AV} (hl:e.cells.length=sz) (ht:e.aQ=true) (hk:e.closed=true) (h:dx R w b o e.cells) (t:fx R w b (o+sz) sz es):fx R w b o sz (e :: es)
inductive dx (R:ak) (w:World):Nat→Nat→List AV→Prop
 | nil {b o:Nat}:dx R w b o []
 | cons {b o:Nat} {a:AV} {c:Value} {l:List AV} (hc:w.cell? ⟨b,o,none⟩=some c) (h1:c.oneCell'=true) (hi:R.I b o) (h:Rel R w a c) (t:dx R w b (o+1) l):dx R w b o (a :: l)
end
def kM:TR→TR→Prop
 | .bC,.bC=>True
 | .bC,.full _=>False
 | .bC,.tok f _ _=>1≤f
 | .full _,.bC=>False
 | .full f,.full f'=>f'=f
 | .full f,.tok f' _ _=>f < f'
 | .tok _ _ _,.bC=>False
 | .tok _ _ _,.full _=>False
 | .tok f b c,.tok f' b' c'=>f≤f'∧(f'=f→b'=b∧c'=c)
theorem kM.refl (t:TR):kM t t:=by cases t <;> simp [kM]
theorem kM.trans {a b c:TR} (h:kM a b) (k:kM b c):kM a c:=by
 cases a <;> cases b <;> cases c <;> simp only [kM] at * <;> omega
def rG (ts Uv:List TR):Prop:=∀ j t,nth ts j=some t→∃ t',nth Uv j=some t'∧kM t t'
theorem rG.refl (ts:List TR):rG ts ts:=fun _ t h=>⟨t,h,kM.refl t⟩
theorem rG.trans {a b c:List TR} (h:rG a b) (k:rG b c):rG a c:=fun j t hj=>
 let ⟨_,h1,h2⟩:=h j t hj
 let ⟨t2,k1,k2⟩:=k j _ h1
 ⟨t2,k1,h2.trans k2⟩
def ck:RO→RO→Prop
 | .none,r=>r=.none
 | .bU b,r=>r=.bU b
 | .bC,.none=>True
 | .bC,.bC=>True
 | .bC,.bU _=>False
 | .bC,.tok f _ _=>1≤f
 | .tok _ _ _,.none=>True
 | .tok _ _ _,.bC=>False
 | .tok _ _ _,.bU _=>False
 | .tok f b c,.tok f' b' c'=>f≤f'∧(f'=f→b'=b∧c'=c)
 | .bC,.ba _=>False
 | .tok _ _ _,.ba _=>False
 | .ba _,.none=>True
 | .ba _,.bC=>False
 | .ba _,.bU _=>False
 | .ba _,.tok _ _ _=>False
 | .ba ts,.ba Uv=>rG ts Uv
theorem ck.refl (r:RO):ck r r:=by cases r <;> simp [ck,rG.refl]
theorem ck.trans {a b c:RO} (h:ck a b) (k:ck b c):ck a c:=by
 cases a with
 | none=>simp only [ck] at h; subst h; exact k
 | bU x=>simp only [ck] at h; subst h; exact k
 | bC=>
  cases b with
  | none=>simp only [ck] at k; subst k; trivial
  | bC=>exact k
  | bU z=>exact h.elim
  | tok f' x' y'=>
   cases c with
   | none=>trivial
   | bC=>exact k.elim
   | bU z=>exact k.elim
   | ba _=>exact k.elim
   | tok f'' x'' y''=>simp only [ck] at *; omega
  | ba _=>exact h.elim
 | tok f x y=>
  cases b with
  | none=>simp only [ck] at k; subst k; trivial
  | bC=>exact h.elim
  | bU z=>exact h.elim
  | tok f' x' y'=>
   cases c with
   | none=>trivial
   | bC=>exact k.elim
   | bU z=>exact k.elim
   | tok f'' x'' y''=>
    simp only [ck] at *
    refine ⟨Nat.le_trans h.1 k.1,fun e=>?_⟩
    obtain ⟨h1,h2⟩:=h; obtain ⟨k1,k2⟩:=k
    have e1:f'=f:=by omega
    have e2:f''=f':=by omega
    exact ⟨(k2 e2).1.trans (h2 e1).1,(k2 e2).2.trans (h2 e1).2⟩
   | ba _=>exact k.elim
  | ba _=>exact h.elim
 | ba ts=>
  cases b with
  | none=>simp only [ck] at k; subst k; trivial
  | bC=>exact h.elim
  | bU z=>exact h.elim
  | tok f' x' y'=>exact h.elim
  | ba Uv=>
   cases c with
   | none=>trivial
   | bC=>exact k.elim
   | bU z=>exact k.elim
   | tok f' x' y'=>exact k.elim
   | ba ts''=>exact rG.trans h k
def qf (r r':Loop):Prop:=r'.tmps=r.tmps∧r'.params=r.params∧r'.assign=r.assign∧r'.body=r.body∧r'.defers=r.defers
def fJ (w w':World):Prop:=∀ (b:Nat) (r:Loop),w.heap[b]?=some (Obj.loop r)→∃ r',w'.heap[b]?=some (Obj.loop r')∧qf r r'
theorem fJ.refl (w:World):fJ w w:=fun _ r h=>⟨r,h,rfl,rfl,rfl,rfl,rfl⟩
theorem fJ.trans {w w1 w2:World} (h:fJ w w1) (k:fJ w1 w2):fJ w w2:=fun b r hb=>
 let ⟨_,h1,h2,h3,h4,h5,h6⟩:=h b r hb
 let ⟨r2,k1,k2,k3,k4,k5,k6⟩:=k b _ h1
 ⟨r2,k1,k2.trans h2,k3.trans h3,k4.trans h4,k5.trans h5,k6.trans h6⟩
theorem fJ.old {w w':World} (h:∀ b,b < w.heap.size→w'.heap[b]?=w.heap[b]?):fJ w w':=fun b r hb=>
 ⟨r,(h b (by
  rcases Nat.lt_or_ge b w.heap.size with bM | kN
  ·exact bM
  ·rw [Array.getElem?_eq_none kN] at hb; cases hb)).trans hb,rfl,rfl,rfl,rfl,rfl⟩
structure Ext (R:ak) (w:World) (R':ak) (w':World):Prop where
 I:∀ b o,R.I b o→R'.I b o
 cell:∀ b o,R.I b o→w'.cell? ⟨b,o,none⟩=w.cell? ⟨b,o,none⟩
 obj:∀ id ro,nth R.obj id=some ro→∃ k9,nth R'.obj id=some k9∧ck ro k9
 lp:fJ w w'
theorem Ext.refl (R:ak) (w:World):Ext R w R w:=⟨fun _ _ h=>h,fun _ _ _=>rfl,fun _ ro h=>⟨ro,h,ck.refl ro⟩,fJ.refl w⟩
theorem Ext.trans {R R' Lw:ak} {w w' PU:World} (h:Ext R w R' w') (k:Ext R' w' Lw PU):Ext R w Lw PU:=
 ⟨fun b o hi=>k.I b o (h.I b o hi),fun b o hi=>(k.cell b o (h.I b o hi)).trans (h.cell b o hi),fun id ro hr=>
  let ⟨_,h1,h2⟩:=h.obj id ro hr
  let ⟨r2,h3,h4⟩:=k.obj id _ h1
  ⟨r2,h3,h2.trans h4⟩,h.lp.trans k.lp⟩
theorem Ext.bU {R R':ak} {w w':World} (h:Ext R w R' w') {id b:Nat} (hb:nth R.obj id=some (.bU b)):nth R'.obj id=some (.bU b):=by
 obtain ⟨r,h1,h2⟩:=h.obj id _ hb
 simp only [ck] at h2
 subst h2
 exact h1
theorem zg.mono {R R':ak} {w w':World} (e:Ext R w R' w') {k:LK} {b o len cap:Nat} (h:zg R k b o len cap):zg R' k b o len cap:=by
 cases k with
 | nil=>exact h
 | full=>exact h
 | ki=>trivial
 | own id=>
  obtain ⟨ro,h1,h2⟩:=h
  obtain ⟨k9,h3,h4⟩:=e.obj id ro h1
  refine ⟨k9,h3,?_⟩
  cases ro with
  | none=>simp only [ck] at h4; subst h4; trivial
  | bC=>exact h2.elim
  | bU x=>exact h2.elim
  | tok f x y=>
   cases k9 with
   | none=>trivial
   | bC=>exact h4.elim
   | bU z=>exact h4.elim
   | tok f' x' y'=>
    simp only [ck,PT] at *
    refine ⟨by omega,fun e=>?_⟩
    have e1:f'=f:=by omega
    have h5:=h2.2 (by omega)
    have h6:=h4.2 e1
    exact ⟨h5.1.trans h6.1.symm,h5.2.1,h5.2.2.trans h6.2.symm⟩
   | ba _=>exact h4.elim
  | ba _=>exact h2.elim
 | ba id j=>
  obtain ⟨ro,h1,h2⟩:=h
  obtain ⟨k9,h3,h4⟩:=e.obj id ro h1
  refine ⟨k9,h3,?_⟩
  cases ro with
  | none=>simp only [ck] at h4; subst h4; trivial
  | bC=>exact h2.elim
  | bU x=>exact h2.elim
  | tok _ _ _=>exact h2.elim
  | ba ts=>
   cases k9 with
   | none=>trivial
   | bC=>exact h4.elim
   | bU z=>exact h4.elim
   | tok _ _ _=>exact h4.elim
   | ba Uv=>
    obtain ⟨t,k1,k2⟩:=h2
    obtain ⟨t',k3,k4⟩:=h4 j t k1
    refine ⟨t',k3,?_⟩
    cases t with
    | bC=>exact k2.elim
    | full f=>
     cases t' with
     | bC=>exact k4.elim
     | full f'=>simp only [kM,Lv] at *; subst k4; exact k2
     | tok f' x' y'=>simp only [kM,Lv] at *; exact ⟨by omega,fun e=>by omega⟩
    | tok f x y=>
     cases t' with
     | bC=>exact k4.elim
     | full f'=>exact k4.elim
     | tok f' x' y'=>
      simp only [kM,Lv] at *
      refine ⟨by omega,fun e=>?_⟩
      have e1:f'=f:=by omega
      have h5:=k2.2 (by omega)
      have h6:=k4.2 e1
      exact ⟨h5.1.trans h6.1.symm,h5.2.1,h5.2.2.trans h6.2.symm⟩
theorem lT.mono {ro k9:RO} (h:lT ro) (e:ck ro k9):lT k9:=by
 cases ro with
 | none=>simp only [ck] at e; subst e; trivial
 | bC=>cases k9 <;> first | trivial | exact e.elim | exact e
 | bU _=>exact h.elim
 | tok f x y=>
  cases k9 with
  | none=>trivial
  | bC=>exact e.elim
  | bU z=>exact e.elim
  | tok f' x' y'=>simp only [ck,lT] at *; omega
  | ba _=>exact e.elim
 | ba _=>exact h.elim
theorem rF.mono {ro k9:RO} (h:rF ro) (e:ck ro k9):rF k9:=by
 cases ro with
 | none=>simp only [ck] at e; subst e; trivial
 | bC=>exact h.elim
 | bU _=>exact h.elim
 | tok _ _ _=>exact h.elim
 | ba ts=>
  cases k9 with
  | none=>trivial
  | bC=>exact e.elim
  | bU z=>exact e.elim
  | tok _ _ _=>exact e.elim
  | ba Uv=>trivial
theorem FN.mono {b o f off sz cap:Nat} {ro k9:RO} (h:FN b o f off sz cap ro) (e:ck ro k9):FN b o f off sz cap k9:=by
 cases ro with
 | none=>simp only [ck] at e; subst e; trivial
 | bC=>exact h.elim
 | bU _=>exact h.elim
 | tok f1 x y=>
  cases k9 with
  | none=>trivial
  | bC=>exact e.elim
  | bU z=>exact e.elim
  | tok f' x' y'=>
   simp only [ck,FN] at *
   refine ⟨by omega,fun k=>?_⟩
   obtain ⟨e1,e2⟩:=e.2 (by omega)
   obtain ⟨h1,h2,h3⟩:=h.2 (by omega)
   exact ⟨h1.trans e1.symm,h2.trans e2.symm,h3⟩
  | ba _=>exact e.elim
 | ba _=>exact h.elim
theorem Hp.mono {b o f i off sz:Nat} {ro k9:RO} (h:Hp b o f i off sz ro) (e:ck ro k9):Hp b o f i off sz k9:=by
 cases ro with
 | none=>simp only [ck] at e; subst e; trivial
 | bC=>exact h.elim
 | bU _=>exact h.elim
 | tok f1 x y=>
  cases k9 with
  | none=>trivial
  | bC=>exact e.elim
  | bU z=>exact e.elim
  | tok f' x' y'=>
   simp only [ck,Hp] at *
   refine ⟨by omega,fun k=>?_⟩
   obtain ⟨e1,e2⟩:=e.2 (by omega)
   obtain ⟨h1,h2⟩:=h.2 (by omega)
   exact ⟨h1.trans e1.symm,h2⟩
  | ba _=>exact e.elim
 | ba _=>exact h.elim
mutual
theorem Rel.mono {R R':ak} {w w':World} (e:Ext R w R' w'):∀ {a:AV} {c:Value},Rel R w a c→Rel R' w' a c
 | _,_,.bool b=>.bool b
 | _,_,.int k n=>.int k n
 | _,_,.str l=>.str l
 | _,_,.agg h h1=>.agg (h.mono e) h1
 | _,_,.bf h=>.bf (h.mono e)
 | _,_,.gG=>.gG
 | _,_,.ptr h=>.ptr (e.bU h)
 | _,_,.ep h=>.ep (h.mono e)
 | _,_,.jj=>.jj
 | _,_,.hY=>.hY
 | _,_,.lU=>.lU
 | _,_,.ln h ho=>let ⟨_,h3,h4⟩:=e.obj _ _ h; .ln h3 (ho.mono h4)
 | _,_,.kL h ho=>let ⟨_,h3,h4⟩:=e.obj _ _ h; .kL h3 (ho.mono h4)
 | _,_,.list h hl hc hk=>.list (h.mono e) hl hc (hk.mono e)
 | _,_,.jh h hc=>.jh (e.bU h) hc
 | _,_,.iB h ho=>let ⟨_,h3,h4⟩:=e.obj _ _ h; .iB h3 (ho.mono h4)
 | _,_,.dA h ho hc=>let ⟨_,h3,h4⟩:=e.obj _ _ h; .dA h3 (ho.mono h4) hc
 | _,_,.gp h ho=>let ⟨_,h3,h4⟩:=e.obj _ _ h; .gp h3 (ho.mono h4)
 | _,_,.jE=>.jE
 | _,_,.map h=>.map (e.bU h)
 | _,_,.cm=>.cm
 | _,_,.fn h h'=>.fn (h.mono e) (h'.mono e)
 | _,_,.yield h=>.yield (e.bU h)
 | _,_,.mN=>.mN
 | _,_,.iface h=>.iface (h.mono e)
theorem aH.mono {R R':ak} {w w':World} (e:Ext R w R' w'):∀ {l:List AV} {cs:List Value},aH R w l cs→aH R' w' l cs
 | _,_,.nil=>.nil
 | _,_,.cons h t=>.cons (h.mono e) (t.mono e)
theorem fx.mono {R R':ak} {w w':World} (e:Ext R w R' w'):∀ {b o sz:Nat} {l:List AV},fx R w b o sz l→fx R' w' b o sz l
 | _,_,_,_,.nil=>.nil
 | _,_,_,_,.cons hl ht hk h t=>.cons hl ht hk (h.mono e) (t.mono e)
theorem dx.mono {R R':ak} {w w':World} (e:Ext R w R' w'):∀ {b o:Nat} {l:List AV},dx R w b o l→dx R' w' b o l
 | _,_,_,.nil=>.nil
 | _,_,_,.cons hc h1 hi h t=>.cons ((e.cell _ _ hi).trans hc) h1 (e.I _ _ hi) (h.mono e) (t.mono e)
end
end Go.Am
namespace Go.Am
open Go
section lists
variable {α:Type}
theorem aX (l:List α) (n:Nat):nth l n=l[n]?:=by
 induction l generalizing n with
 | nil=>simp [nth]
 | cons a l ih=>cases n <;> simp [nth,ih]
theorem fy (l:List α) (n:Nat) (x:α):aA l n x=l.set n x:=by
 induction l generalizing n with
 | nil=>simp [aA]
 | cons a l ih=>cases n <;> simp [aA,ih]
theorem bJ {l:List α} {n:Nat} {x:α} (h:nth l n=some x):n < l.length:=by
 rw [aX] at h
 exact (List.getElem?_eq_some_iff.1 h).1
theorem aG {l:List α} {n:Nat} {x y:α} (h:nth l n=some y):nth (aA l n x) n=some x:=by
 have:=bJ h
 rw [aX,fy,List.getElem?_set_self this]
theorem bG {l:List α} {n m:Nat} {x:α} (h:n≠m):nth (aA l n x) m=nth l m:=by
 rw [aX,fy,aX,List.getElem?_set_ne h]
theorem cV {l:List α} {n m:Nat} {x y:α} (h:nth (aA l n x) m=some y):(n=m∧y=x∧m < l.length)∨(n≠m∧nth l m=some y):=by
 by_cases e:n=m
 ·subst e
  have hl:=bJ h
  rw [fy,List.length_set] at hl
  rw [aX,fy,List.getElem?_set_self hl] at h
  exact .inl ⟨rfl,(Option.some.inj h).symm,hl⟩
 ·rw [bG e] at h
  exact .inr ⟨e,h⟩
@[simp] theorem gu (l:List α) (n:Nat) (x:α):(aA l n x).length=l.length:=by rw [fy,List.length_set]
theorem eZ (l:List α) (x:α):nth (l++[x]) l.length=some x:=by rw [aX]; simp
theorem cW {l:List α} {n:Nat} {y x:α} (h:nth l n=some y):nth (l++[x]) n=some y:=by
 have:=bJ h
 rw [aX] at *
 rw [List.getElem?_append_left this]
 exact h
theorem av {l:List α} {n:Nat} {y x:α} (h:nth (l++[x]) n=some y):nth l n=some y∨(n=l.length∧y=x):=by
 rw [aX] at *
 by_cases e:n < l.length
 ·rw [List.getElem?_append_left e] at h; exact .inl h
 ·rw [List.getElem?_append_right (by omega)] at h
  have hl:=(List.getElem?_eq_some_iff.1 h).1
  simp at hl
  have:n - l.length=0:=by omega
  rw [this] at h
  simp at h
  exact .inr ⟨by omega,h.symm⟩
theorem jH:∀ {l:List α} {n:Nat} {x:α},nth l n=some x→aA l n x=l
 | [],_,_,h=>by cases h
 | a :: l,0,x,h=>by cases h; rfl
 | a :: l,n+1,x,h=>by
  show a :: aA l n x=a :: l
  rw [jH (show nth l n=some x from h)]
end lists
def QU (R:ak) (w:World) (Vb:a8→Array Value→Prop) (busy:Bool) (pending:Option Code) (ae:a8) (n:Nat) (params:List Tmp) (assign body:Code) (defers:Nat) (done:Bool) (b:Nat):Prop:=
 ∃ (r:Loop) (db:Nat),w.heap[b]?=some (.loop r)∧r.state=(if done then .done else if busy then .busy else .ready)∧r.pending=pending ∧
  Vb ae r.tmps∧r.tmps.size=n∧r.params=⟨params⟩∧r.assign=assign∧r.body=body∧r.defers=db∧nth R.obj defers=some (.bU db)
def oK (R:ak) (w:World) (β:Nat→Nat):SV→Value→Prop
 | .none,_=>True
 | .v a,c=>Rel R w a c
 | .lp k off,c=>c=.pointer (some ⟨β k,off,none⟩)
def mV (R:ak) (w:World) (β:Nat→Nat) (ae:a8) (tmps:Array Value):Prop:=
 ∀ i,lk ae i≠.none→∃ c,tmps[i]?=some c∧oK R w β (lk ae i) c
def Eo:a8→Bool
 | []=>true
 | .put _ (.lp _ _) :: _=>false
 | _ :: l=>Eo l
def dc (R:ak) (w:World):List (AV × AV)→List MapEntry→Prop
 | [],[]=>True
 | (k,v) :: l,e :: es=>Rel R w k e.key∧Rel R w v e.val∧dc R w l es
 | _,_=>False
def xY (R:ak) (w:World) (sz:Nat) (e:TypeId) (f:Nat):TR→Prop
 | .bC=>f=0
 | .full f'=>f'=f
 | .tok f' b c=>f'=f∧∃ cur,w.heap[b]?=some (.cells cur e (0,0))∧f≤c∧c≤maxLen∧cur.size=c * sz∧∀ o,f * sz≤o→¬ R.I b o
def Vc (ts:List TR):Prop:=∀ i j f b c f' c',nth ts i=some (.tok f b c)→nth ts j=some (.tok f' b c')→i=j
def uy (R:ak) (w:World) (sz:Nat) (e:TypeId) (fs:List Nat) (ts:List TR):Prop:=
 ts.length=fs.length∧Vc ts∧∀ j f t,nth fs j=some f→nth ts j=some t→xY R w sz e f t
def iW (aw:Array MapEntry) (clock:Nat):Prop:=clock=aw.size∧∀ (i:Nat) (e:MapEntry),aw.toList[i]?=some e→e.born=i
def Vd (R:ak) (w:World) (pt n:Nat) (left:List Nat) (cur:Option Nat) (b:Nat):Prop:=
 ∃ bm seen c0,nth R.obj pt=some (.bU bm)∧w.heap[b]?=some (.mapIter (some bm) n seen c0)∧(∀ i,i < n→(i∈left↔seen.contains i=false))∧(∀ i∈left,i < n)∧left.Nodup∧n≤c0∧∀ i,cur=some i→seen.back?=some i∧c0=n
def fP (R:ak) (w:World):GO→RO→Prop
 | .dead,.none=>True
 | .dead,.bC=>True
 | .dead,.bU b=>b < w.heap.size
 | .dead,.tok _ b _=>b < w.heap.size
 | .dead,.ba ts=>∀ j f b c,nth ts j=some (.tok f b c)→b < w.heap.size
 | .ba fs sz e,.ba ts=>uy R w sz e fs ts
 | .mJ pt n left cur _,.bU b=>Vd R w pt n left cur b
 | .tok f _ _,.bC=>f=0
 | .row cs el,.bU b=>∃ vs,w.heap[b]?=some (.cells ⟨vs⟩ el (0,0))∧aH R w cs vs∧(∀ v∈vs,v.oneCell'=true)∧∀ o,¬ R.I b o
 | .tok f sz e,.tok f' b c=>f'=f∧∃ cur,w.heap[b]?=some (.cells cur e (0,0))∧f≤c∧c≤maxLen∧cur.size=c * sz∧∀ o,f * sz≤o→¬ R.I b o
 | .cS es _ _,.bC=>es=[]
 | .cS es sz e,.tok f b c=>f=es.length∧dp sz es∧∃ cur vs,w.heap[b]?=some (.cells cur e (0,0))∧f≤c∧c≤maxLen∧cur.size=c * sz∧(∀ o,¬ R.I b o)∧aH R w (ar es) vs∧(∀ v∈vs,v.oneCell'=true)∧cur.toList.take (f * sz)=vs
 | .map es,.bU b=>∃ aw clock,w.heap[b]?=some (.map aw clock)∧dc R w es aw.toList∧iW aw clock
 | .fG l pos,.bU b=>w.heap[b]?=some (.stringIter ⟨⟨l⟩⟩ pos)
 | .loop busy pending _ ae n params assign body defers done,.bU b=>QU R w (mV R w (fun _=>0)) busy pending ae n params assign body defers done b∧Eo ae=true
 | .defers o,.bU b=>w.heap[b]?=some (.deferred (if o then some [] else none))
 | _,_=>False
def iX (E:Env) (R:ak) (w:World) (g:Nat) (cs:List AV):Prop:=
 dx R w g 0 cs∧(E.gx g=true→R.I g cs.length∧w.cell? ⟨g,cs.length,none⟩=none)
theorem iX.mono {E:Env} {R R':ak} {w w':World} {g:Nat} {cs:List AV} (h:iX E R w g cs) (e:Ext R w R' w'):iX E R' w' g cs:=
 ⟨h.1.mono e,fun hx=>⟨e.I _ _ (h.2 hx).1,(e.cell _ _ (h.2 hx).1).trans (h.2 hx).2⟩⟩
structure de (E:Env) (R:ak) (w:World) (G:List GO):Prop where
 len:R.obj.length=G.length
 obj:∀ id go ro,nth G id=some go→nth R.obj id=some ro→fP R w go ro
 inj:∀ i j ri rj b,nth R.obj i=some ri→nth R.obj j=some rj→ri.has b→rj.has b→i=j
 wf:∀ b o,R.I b o→b < w.heap.size
 bY:∀ g cs,E.bY g=some cs→iX E R w g cs
 lo:E.lo≤w.drawn
def Live (R:ak) (b:Nat):Prop:=∃ id ro,nth R.obj id=some ro∧ro.has b
structure Lx (R:ak) (w:World) (β:Nat→Nat) (boxes:cw):Prop where
 box:∀ k cs,dm boxes k=some cs→(∃ vs el,w.heap[β k]?=some (.cells ⟨vs⟩ el (0,0))∧aH R w cs vs∧(∀ v∈vs,v.oneCell'=true))∧(∀ o,¬ R.I (β k) o)∧¬ Live R (β k)
 inj:∀ k k' cs cs',dm boxes k=some cs→dm boxes k'=some cs'→β k=β k'→k=k'
def oL (R:ak):List Nat→List Deferred→Prop
 | [],[]=>True
 | id :: l,d :: ds=>(∃ b,nth R.obj id=some (.bU b)∧d={ target:=.collected b,args:=#[] })∧oL R l ds
 | _,_=>False
structure bg (E:Env) (R:ak) (w:World) (β:Nat→Nat) (s:St) (a:Act):Prop where
 g:de E R w s.G
 b:Lx R w β s.boxes
 t:mV R w β s.ae a.tmps
 n:a.tmps.size=s.n
 d:oL R s.marks a.defers
def Own (R:ak) (β:Nat→Nat) (boxes:cw) (b:Nat):Prop:=
 Live R b∨∃ k cs,dm boxes k=some cs∧β k=b
structure Step (R:ak) (w:World) (β:Nat→Nat) (bx:cw) (R':ak) (w':World) (β':Nat→Nat) (Hq:cw):Prop where
 ext:Ext R w R' w'
 os:w'.os=w.os
 tape:w'.tape=w.tape
 output:w'.output=w.output
 size:w.heap.size≤w'.heap.size
 bp:∀ b,b < w.heap.size→¬ Own R β bx b→w'.heap[b]?=w.heap[b]?
 own:∀ b,b < w.heap.size→Own R' β' Hq b→Own R β bx b
 im:∀ b o,R'.I b o→b < w.heap.size→¬ Own R β bx b→R.I b o
theorem Step.refl (R:ak) (w:World) (β:Nat→Nat) (bx:cw):Step R w β bx R w β bx:=
 ⟨Ext.refl R w,rfl,rfl,rfl,Nat.le_refl _,fun _ _ _=>rfl,fun _ _ h=>h,fun _ _ h _ _=>h⟩
theorem Step.trans {R R1 R2:ak} {w w1 w2:World} {β β1 β2:Nat→Nat} {x x1 x2:cw}
  (h:Step R w β x R1 w1 β1 x1) (k:Step R1 w1 β1 x1 R2 w2 β2 x2):Step R w β x R2 w2 β2 x2 where
 ext:=h.ext.trans k.ext
 os:=k.os.trans h.os
 tape:=k.tape.trans h.tape
 output:=k.output.trans h.output
 size:=Nat.le_trans h.size k.size
 bp:=fun b hb hn=>(k.bp b (Nat.lt_of_lt_of_le hb h.size) (fun ho=>hn (h.own b hb ho))).trans (h.bp b hb hn)
 own:=fun b hb ho=>h.own b hb (k.own b (Nat.lt_of_lt_of_le hb h.size) ho)
 im:=fun b o hi hb hn=>h.im b o (k.im b o hi (Nat.lt_of_lt_of_le hb h.size) (fun ho=>hn (h.own b hb ho))) hb hn
theorem oK.mono {R R':ak} {w w':World} {β:Nat→Nat} (e:Ext R w R' w') {x:SV} {c:Value} (h:oK R w β x c):oK R' w' β x c:=by
 cases x with
 | none=>trivial
 | v a=>exact Rel.mono e h
 | lp k off=>exact h
theorem qg (n:Nat):Nat.beq n n=true:=Nat.beq_refl n
theorem lV {n m:Nat} (h:n≠m):Nat.beq n m=false:=by
 cases hb:Nat.beq n m with
 | true=>exact absurd (Nat.eq_of_beq_eq_true hb) h
 | false=>rfl
theorem ay (l:a8) (d:Nat) (x:SV):lk (.put d x :: l) d=x:=by simp [lk]
theorem aK {l:a8} {d t:Nat} {x:SV} (h:d≠t):lk (.put d x :: l) t=lk l t:=by simp [lk,lV h]
theorem Ep {l:a8} {d t:Nat}:(lk (.kill d :: l) t=lk l t∧∀ k off,lk l t=.lp k off→k≠d)∨lk (.kill d :: l) t=.none:=by
 simp only [lk]
 cases h:lk l t with
 | none=>exact .inr rfl
 | v a=>exact .inl ⟨rfl,fun _ _ e=>by cases e⟩
 | lp k off=>
  by_cases hk:k=d
  ·subst hk
   exact .inr (by simp)
  ·exact .inl ⟨by simp [lV hk],fun k' eY e=>by cases e; exact hk⟩
theorem Hr (l:cw) (d:Nat) (cs:List AV):dm ((d,cs) :: l) d=some cs:=by simp [dm]
theorem dW {l:cw} {d k:Nat} {cs cs':List AV} (h:dm ((d,cs) :: l) k=some cs'):(d=k∧cs'=cs)∨(d≠k∧dm l k=some cs'):=by
 by_cases e:d=k
 ·subst e
  rw [Hr] at h
  exact .inl ⟨rfl,(Option.some.inj h).symm⟩
 ·simp only [dm,lV e,cond_false] at h
  exact .inr ⟨e,h⟩
theorem Ly {l:cw} (h:l.all (fun p=>aB p.2)=true) {k:Nat} {cs:List AV} (hk:dm l k=some cs):aB cs=true:=by
 induction l with
 | nil=>simp [dm] at hk
 | cons x l ih=>
  obtain ⟨d,c⟩:=x
  simp only [List.all_cons,Bool.and_eq_true] at h
  rcases dW hk with ⟨_,rfl⟩ | ⟨_,hk⟩
  ·exact h.1
  ·exact ih h.2 hk
theorem mV.put {R:ak} {w:World} {β:Nat→Nat} {ae:a8} {a:Act} (h:mV R w β ae a.tmps) {d:Tmp} {x:SV} {c:Value} (hd:d < a.tmps.size) (hx:oK R w β x c) :
  mV R w β (.put d x :: ae) (a.put (some d) c).tmps:=by
 intro i hi
 by_cases e:d=i
 ·subst e
  rw [ay]
  exact ⟨c,by simp [Act.put,hd],hx⟩
 ·rw [aK e] at hi ⊢
  obtain ⟨c',h1,h2⟩:=h i hi
  refine ⟨c',?_,h2⟩
  simp only [Act.put]
  rw [Array.getElem?_setIfInBounds_ne e]
  exact h1
theorem bg.put {E:Env} {R:ak} {w:World} {β:Nat→Nat} {s:St} {a:Act} (h:bg E R w β s a) (dst:Option Tmp) {x:SV} {c:Value} (hx:oK R w β x c) :
  bg E R w β (s.put dst x) (a.put dst c):=by
 cases dst with
 | none=>exact h
 | some d=>
  simp only [St.put]
  cases hb:Nat.blt d s.n with
  | true=>
   have hd:d < a.tmps.size:=by rw [h.n]; exact Nat.le_of_ble_eq_true hb
   exact ⟨h.g,h.b,h.t.put hd hx,by simp [Act.put,h.n],h.d⟩
  | false=>
   have hd:¬ d < a.tmps.size:=by
    rw [h.n]
    intro bM
    have:Nat.blt d s.n=true:=Nat.ble_eq_true_of_le bM
    rw [this] at hb
    cases hb
   have he:a.put (some d) c=a:=by
    simp only [Act.put]
    rw [Array.setIfInBounds_eq_of_size_le (Nat.not_lt.1 hd)]
   rw [he]
   exact h
theorem qh {R:ak} {w:World} {v:Value} {a:AV} (h:p9 v=some a):Rel R w a v∧v.oneCell'=true:=by
 unfold p9 at h
 split at h <;> cases h
 ·exact ⟨.bool _,rfl⟩
 ·exact ⟨.int _ _,rfl⟩
 ·rename_i s
  exact ⟨.str s.data.toList,rfl⟩
 ·exact ⟨.jj,rfl⟩
 ·exact ⟨.gG,rfl⟩
 ·exact ⟨.jE,rfl⟩
 ·exact ⟨.cm,rfl⟩
 ·exact ⟨.mN,rfl⟩
theorem lW {R:ak} {w:World}:∀ {vs:List Value} {l:List AV},lg vs=some l→aH R w l vs∧∀ v∈vs,v.oneCell'=true
 | [],l,h=>by simp [lg] at h; subst h; exact ⟨.nil,by simp⟩
 | v :: vs,l,h=>by
  unfold lg at h
  split at h
  ·rename_i a r h1 h2
   cases h
   obtain ⟨k1,k2⟩:=qh (R:=R) (w:=w) h1
   obtain ⟨k3,k4⟩:=lW (R:=R) (w:=w) h2
   exact ⟨.cons k1 k3,by simp [k2]; exact k4⟩
  ·cases h
theorem sJ {R:ak} {w:World} {v:Value} {a:AV} (h:qa v=some a):Rel R w a v:=by
 unfold qa at h
 split at h
 ·rename_i cs
  split at h
  ·rename_i l hl
   cases h
   obtain ⟨k1,k2⟩:=lW (R:=R) (w:=w) hl
   exact .agg (vs:=cs.toList) k1 k2
  ·cases h
 ·rename_i cs
  split at h
  ·rename_i l hl
   cases h
   obtain ⟨k1,_⟩:=lW (R:=R) (w:=w) hl
   exact .bf (vs:=cs.toList) k1
  ·cases h
 ·exact (qh h).1
theorem aN {E:Env} {R:ak} {w:World} {β:Nat→Nat} {s:St} {a:Act} (h:bg E R w β s a) (x:Operand):oK R w β (bB E s.ae x) (a.eval x):=by
 cases x with
 | tmp t=>
  simp only [bB,Act.eval]
  by_cases hn:lk s.ae t=.none
  ·rw [hn]; trivial
  ·obtain ⟨c,h1,h2⟩:=h.t t hn
   have:a.tmps.getD t undef=c:=by simp [Array.getD_eq_getD_getElem?,h1]
   rw [this]
   exact h2
 | const v=>
  simp only [bB,Act.eval]
  cases hc:qa v with
  | none=>trivial
  | some y=>exact sJ hc
 | global g=>
  simp only [bB,Act.eval]
  cases hg:E.bY g with
  | none=>trivial
  | some cs=>exact Rel.ep (h.g.bY g cs hg).1
 | func f=>exact Rel.fn .nil .nil
end Go.Am
