/- The abstract machine: its values,its state,and what each operation does (definitions alone). -/
import Derived.CallsIn
import Derived.RangeFuncLeaves
import Derived.Laws.AppendOwn
set_option linter.all false
namespace Go.Am
open Go
inductive LK where
 | nil | full | iy | own (id:Nat) | aM (id j:Nat)
inductive AV where
 | bool (b:Bool)
 | int (k:IntKind) (n:Int)
 | str (s:List UInt8)
 | agg (cs:List AV)
 | aR (vs:List AV)
 | fa
 | ptr (id off:Nat)
 | ep (cs:List AV)
 | list (k:LK) (sz:Nat) (es:List AV)
 | gn (id off sz len cap:Nat)
 | dI (id f off sz len:Nat)
 | gp (id f i off sz:Nat) (t:TypeId)
 | gM
 | map (id:Nat)
 | bE
 | fn (f:FuncId) (first cap:List AV)
 | yield (id:Nat)
 | kj
 | iface (t:TypeId) (v:AV)
def LK.closed:LK→Bool
 | .own _=>false
 | .aM _ _=>false
 | _=>true
mutual
def AV.closed:AV→Bool
 | .agg cs=>aK cs
 | .aR cs=>aK cs
 | .ep cs=>aK cs
 | .list k _ _=>k.closed
 | .fn _ x y=>aK x&&aK y
 | .iface _ v=>v.closed
 | .ptr _ _=>false
 | .gn _ _ _ _ _=>false
 | .dI _ _ _ _ _=>false
 | .gp _ _ _ _ _ _=>false
 | .map _=>false
 | .yield _=>false
 | _=>true
def aK:List AV→Bool
 | []=>true
 | a :: l=>a.closed&&aK l
end
mutual
def AV.eu:AV→AV
 | .agg cs=>.agg (iD cs)
 | .aR cs=>.aR (iD cs)
 | .list (.own _) sz es=>.list .iy sz es
 | .list (.aM _ _) sz es=>.list .iy sz es
 | v=>v
def iD:List AV→List AV
 | []=>[]
 | a :: l=>a.eu :: iD l
end
inductive SV where
 | none
 | v (a:AV)
 | lp (key off:Nat)
inductive Sc where
 | put (d:Nat) (x:SV)
 | kill (d:Nat)
abbrev aL:=List Sc
abbrev bK:=List (Nat × List AV)
def lk:aL→Nat→SV
 | [],_=>.none
 | .put d x :: l,t=>bif Nat.beq d t then x else lk l t
 | .kill d :: l,t=>match lk l t with
  | .lp k off=>bif Nat.beq k d then .none else .lp k off
  | x=>x
def cz:bK→Nat→Option (List AV)
 | [],_=>none
 | (d,cs) :: l,k=>bif Nat.beq d k then some cs else cz l k
inductive GO where
 | dead
 | row (cs:List AV) (el:TypeId)
 | tok (f sz:Nat) (e:TypeId)
 | aM (fs:List Nat) (sz:Nat) (e:TypeId)
 | kf (me n:Nat) (left:List Nat) (cur:Option Nat) (t:TypeId)
 | dw (es:List AV) (sz:Nat) (el:TypeId)
 | map (es:List (AV × AV))
 | eo (s:List UInt8) (pos:Nat)
 | loop (busy:Bool) (pending:Option Code) (fn:FuncId) (ae:aL) (n:Nat) (params:List Tmp) (assign body:Code) (defers:Nat) (done:Bool)
 | defers (open_:Bool)
structure St where
 ae:aL
 boxes:bK
 G:List GO
 marks:List Nat
 ro:Option Nat
 n:Nat
def nth {α:Type}:List α→Nat→Option α
 | [],_=>none
 | a :: _,0=>some a
 | _ :: l,n+1=>nth l n
def aw {α:Type}:List α→Nat→α→List α
 | [],_,_=>[]
 | _ :: l,0,x=>x :: l
 | a :: l,n+1,x=>a :: aw l n x
def takeN {α:Type}:Nat→List α→Option (List α)
 | 0,_=>some []
 | _+1,[]=>none
 | n+1,a :: l=>match takeN n l with
  | some r=>some (a :: r)
  | none=>none
def dC {α:Type}:Nat→List α→List α
 | 0,l=>l
 | _+1,[]=>[]
 | n+1,_ :: l=>dC n l
def zQ {α:Type} (off n:Nat) (l:List α):Option (List α):=takeN n (dC off l)
def bt {α:Type}:List α→Nat→List α→List α
 | l,_,[]=>l
 | [],_,_ :: _=>[]
 | _ :: l,0,y :: ys=>y :: bt l 0 ys
 | a :: l,n+1,y :: ys=>a :: bt l n (y :: ys)
def AV.cells:AV→List AV
 | .agg cs=>cs
 | v=>[v]
def AV.one:AV→Bool
 | .agg _=>false
 | .aR _=>false
 | _=>true
def mR:Value→Option AV
 | .bool b=>some (.bool b)
 | .int k n=>some (.int k n)
 | .string s=>some (.str s.data.toList)
 | .slice none 0 0=>some (.list .nil 0 [])
 | .pointer none=>some .fa
 | .map none=>some .gM
 | .nilFunc=>some .bE
 | .nilIface=>some .kj
 | _=>none
def jh:List Value→Option (List AV)
 | []=>some []
 | v :: vs=>match mR v,jh vs with
  | some a,some l=>some (a :: l)
  | _,_=>none
def mS:Value→Option AV
 | .agg cs=>match jh cs.toList with
  | some l=>some (.agg l)
  | none=>none
 | .tuple cs=>match jh cs.toList with
  | some l=>some (.aR l)
  | none=>none
 | v=>mR v
inductive TK where
 | sc
 | int (k:IntKind)
 | str
 | st (fs:List (Nat × Nat × Bool))
 | arr (len esz:Nat) (O4:Bool)
 | sl (elem esz:Nat) (O4:Bool) (aT:Nat) (L9:Option AV)
 | map (key elem:TypeId) (L9:Option AV)
mutual
inductive EK where
 | no
 | bool
 | int
 | str
 | st (fs:Jj)
inductive Jj where
 | nil
 | cons (off sz:Nat) (ag:Bool) (k:EK) (rest:Jj)
end
structure TI where
 k:TK
 size:Nat
 agg:Bool
 zero:Option AV
 ek:EK
def fV:TypeDesc→Bool
 | .struct _=>true
 | .array _ _=>true
 | _=>false
def fieldsOf (P:Program):List Field→Option (List (Nat × Nat × Bool))
 | []=>some []
 | f :: fs=>match P.info? f.type,P.underlying f.type,fieldsOf P fs with
  | some i,some u,some l=>some ((f.offset,i.size,fV u) :: l)
  | _,_,_=>none
def dY (i:TypeInfo):Option AV:=match i.zero with
 | some z=>mS z
 | none=>none
def lC (P:Program):TypeDesc→Option TK
 | .int k=>some (.int k)
 | .string=>some .str
 | .struct fs=>match fieldsOf P fs.toList with
  | some l=>some (.st l)
  | none=>none
 | .array n e=>match P.info? e,P.underlying e with
  | some i,some u=>some (.arr n i.size (fV u))
  | _,_=>none
 | .slice e=>match P.info? e,P.underlying e with
  | some i,some u=>some (.sl e i.size (fV u) i.bytes (dY i))
  | _,_=>none
 | .map k e=>match P.info? e with
  | some i=>some (.map k e (dY i))
  | none=>none
 | _=>some .sc
def xW (P:Program) (ek:TypeId→EK):List Field→Option Jj
 | []=>some .nil
 | f :: fs => if f.name == "_" then none else match P.info? f.type, P.underlying f.type, xW P ek fs with
  | some i,some u,some l=>some (.cons f.offset i.size (fV u) (ek f.type) l)
  | _,_,_=>none
def qL (sz:Nat) (ag:Bool) (k:EK):Nat→Nat→Jj
 | 0,_=>.nil
 | n+1,i=>.cons (i * sz) sz ag k (qL sz ag k n (i+1))
def lD (P:Program):Nat→TypeId→EK
 | 0,_=>.no
 | n+1,t=>match P.underlying t with
  | some .bool=>.bool
  | some (.int _)=>.int
  | some .string=>.str
  | some (.struct fs)=>if P.stoodInHeld t then .no else match xW P (lD P n) fs.toList with
   | some l=>.st l
   | none=>.no
  | some (.array m e)=>match P.info? e,P.underlying e with
   | some i,some u=>.st (qL i.size (fV u) (lD P n e) m 0)
   | _,_=>.no
  | _=>.no
def oX (P:Program) (t:TypeId):EK:=match lD P 6 t with
 | .st l=>if P.eqGuardType P.depth t then .no else .st l
 | k=>k
def AP (P:Program) (t:TypeId):Option TI:=
 match P.info? t,P.underlying t with
 | some i,some u=>match lC P u with
  | some k=>some { k:=k,size:=i.size,agg:=fV u,zero:=dY i,ek:=oX P t }
  | none=>none
 | _,_=>none
def B4:AV→AV→Bool
 | .bool a,.bool b=>a == b
 | .int k a,.int k' b=>(k == k')&&a == b
 | .str a,.str b=>a == b
 | .fa,.fa=>true
 | .ptr i o,.ptr i' o'=>Nat.beq i i'&&Nat.beq o o'
 | .gM,.gM=>true
 | .map i,.map i'=>Nat.beq i i'
 | .bE,.bE=>true
 | .kj,.kj=>true
 | .gn a b c d e,.gn a' b' c' d' e'=>Nat.beq a a'&&Nat.beq b b'&&Nat.beq c c'&&Nat.beq d d'&&Nat.beq e e'
 | .dI a b c d e,.dI a' b' c' d' e'=>Nat.beq a a'&&Nat.beq c c'&&Nat.beq d d'&&(Nat.beq b b'&&Nat.beq e e')
 | .gp a b c d e t,.gp a' b' c' d' e' t'=>Nat.beq a a'&&Nat.beq b b'&&Nat.beq c c'&&Nat.beq d d'&&Nat.beq e e'&&Nat.beq t t'
 | _,_=>false
mutual
def cO:AV→AV→Bool
 | .fn f x y,.fn f' x' y'=>Nat.beq f f'&&ji x x'&&ji y y'
 | .agg cs,.agg cs'=>ji cs cs'
 | .ep cs,.ep cs'=>ji cs cs'
 | .aR cs,.aR cs'=>ji cs cs'
 | .list .nil a es,.list .nil a' es'=>Nat.beq a a'&&ji es es'
 | .list .full a es,.list .full a' es'=>Nat.beq a a'&&ji es es'
 | .list .iy a es,.list .iy a' es'=>Nat.beq a a'&&ji es es'
 | .list (.own i) a es,.list (.own i') a' es'=>Nat.beq i i'&&Nat.beq a a'&&ji es es'
 | .list (.aM i j) a es,.list (.aM i' j') a' es'=>Nat.beq i i'&&Nat.beq j j'&&Nat.beq a a'&&ji es es'
 | a,b=>B4 a b
def ji:List AV→List AV→Bool
 | [],[]=>true
 | a :: l,b :: r=>cO a b&&ji l r
 | _,_=>false
end
mutual
inductive av
 | int (k:IntKind)
 | bool
 | str
 | agg (ps:aB)
 | aR (ps:aB)
 | list (sz:Nat) (p:av)
 | own (id sz:Nat) (p:av)
 | aM (id sz:Nat) (p:av)
 | qm (v:AV)
 | two (u v:AV)
inductive aB
 | nil
 | cons (p:av) (ps:aB)
end
def Ma (s:Bool) (α β:Type):Type:=match s with
 | true=>α
 | false=>α × β
def aB.isNil:aB→Bool
 | .nil=>true
 | .cons _ _=>false
mutual
def av.T:av→Type
 | .int _=>Int
 | .bool=>Bool
 | .str=>List UInt8
 | .agg ps=>ps.T
 | .aR ps=>ps.T
 | .list _ p=>List p.T
 | .own _ _ p=>List p.T
 | .aM _ _ p=>Nat × List p.T
 | .qm _=>Unit
 | .two _ _=>Bool
def aB.T:aB→Type
 | .nil=>Unit
 | .cons p ps=>Ma ps.isNil p.T ps.T
end
mutual
def av.enc:(p:av)→p.T→AV
 | .int k,(n:Int)=>.int k n
 | .bool,(b:Bool)=>.bool b
 | .str,(s:List UInt8)=>.str s
 | .agg ps,x=>.agg (ps.enc x)
 | .aR ps,x=>.aR (ps.enc x)
 | .list sz p,(xs:List p.T)=>.list .iy sz (xs.map p.enc)
 | .own id sz p,(xs:List p.T)=>.list (.own id) sz (xs.map p.enc)
 | .aM id sz p,(x:Nat × List p.T)=>.list (.aM id x.1) sz (x.2.map p.enc)
 | .qm v,_=>v
 | .two u v,(b:Bool)=>bif b then v else u
def aB.enc:(ps:aB)→ps.T→List AV
 | .nil,_=>[]
 | .cons p .nil,x=>[p.enc x]
 | .cons p (.cons q ps),x=>p.enc x.1 :: (aB.cons q ps).enc x.2
end
def Jk:IntKind→IntKind→Bool:=fun a b=>decide (a=b)
def AV.fV:AV→List AV
 | .agg cs=>cs
 | _=>[]
def AV.Jl:AV→List AV
 | .aR cs=>cs
 | _=>[]
def AV.cI:AV→List AV
 | .list _ _ es=>es
 | _=>[]
def AV.O6:AV→Nat
 | .list (.aM _ j) _ _=>j
 | _=>0
def AV.iz:AV→Int
 | .int _ n=>n
 | _=>0
def AV.Mb:AV→Bool
 | .bool b=>b
 | _=>false
def AV.Jm:AV→List UInt8
 | .str s=>s
 | _=>[]
def cP:List AV→AV
 | a :: _=>a
 | []=>.fa
def B5:List AV→List AV
 | _ :: l=>l
 | []=>[]
mutual
def av.aX:(p:av)→AV→p.T
 | .int _,v=>v.iz
 | .bool,v=>v.Mb
 | .str,v=>v.Jm
 | .agg ps,v=>ps.aX v.fV
 | .aR ps,v=>ps.aX v.Jl
 | .list _ p,v=>v.cI.map p.aX
 | .own _ _ p,v=>v.cI.map p.aX
 | .aM _ _ p,v=>(v.O6,v.cI.map p.aX)
 | .qm _,_=>()
 | .two _ v,a=>cO a v
def aB.aX:(ps:aB)→List AV→ps.T
 | .nil,_=>()
 | .cons p .nil,l=>p.aX (cP l)
 | .cons p (.cons q ps),l=>(p.aX (cP l),(aB.cons q ps).aX (B5 l))
end
def allFit (f:AV→Bool):List AV→Bool
 | []=>true
 | a :: l=>f a&&allFit f l
mutual
def av.fits:av→AV→Bool
 | .int k,v=>match v with
  | .int k' _=>Jk k k'
  | _=>false
 | .bool,v=>match v with
  | .bool _=>true
  | _=>false
 | .str,v=>match v with
  | .str _=>true
  | _=>false
 | .agg ps,v=>match v with
  | .agg cs=>ps.fits cs
  | _=>false
 | .aR ps,v=>match v with
  | .aR cs=>ps.fits cs
  | _=>false
 | .list sz p,v=>match v with
  | .list _ a8 es=>(Nat.beq sz a8 || es.isEmpty)&&allFit p.fits es
  | _=>false
 | .own id sz p,v=>match v with
  | .list (.own fU) a8 es=>(Nat.beq id fU&&Nat.beq sz a8)&&allFit p.fits es
  | _=>false
 | .aM id sz p,v=>match v with
  | .list (.aM fU _) a8 es=>(Nat.beq id fU&&Nat.beq sz a8)&&allFit p.fits es
  | _=>false
 | .qm v,u=>cO u v
 | .two u v,a=>cO a u || cO a v
def aB.fits:aB→List AV→Bool
 | .nil,l=>l.isEmpty
 | .cons p ps,l=>match l with
  | a :: l=>p.fits a&&ps.fits l
  | []=>false
end
def av.dec (p:av) (v:AV):Option p.T:=bif p.fits v then some (p.aX v) else none
def aB.dec (ps:aB) (l:List AV):Option ps.T:=bif ps.fits l then some (ps.aX l) else none
structure Env where
 P:Program
 ti:TypeId→Option TI
 bY:Nat→Option (List AV)
 tc:FuncId→Tmp→Bool
 Iq:TypeId→Option av
 lo:Nat:=0
 Q8:FuncId→Tmp→List (Option Nat × Nat × TypeId):=fun _ _=>[]
 Ov:TypeId→Option av:=fun _=>none
 gx:Nat→Bool:=fun _=>false
 AQ:∀ t i,ti t=some i→AP P t=some i
 mixed:P.follows .mixedOrders=true
 mf:∀ g cs,bY g=some cs→aK cs=true
def aY (E:Env) (ae:aL):Operand→SV
 | .tmp t=>lk ae t
 | .const v=>match mS v with
  | some a=>.v a
  | none=>.none
 | .global g=>match E.bY g with
  | some cs=>.v (.ep cs)
  | none=>.none
 | .func f=>.v (.fn f [] [])
def St.put (s:St) (dst:Option Tmp) (x:SV):St:=match dst with
 | some d=>match Nat.blt d s.n with
  | true=>⟨.put d x :: s.ae,s.boxes,s.G,s.marks,s.ro,s.n⟩
  | false=>s
 | none=>s
def dL:AV:=.aR []
def od (agg:Bool) (cs:List AV):Option AV:=
 if agg then some (.agg cs) else match cs with
  | [c]=>some c
  | _=>none
def jF (s:St):SV→Option (List AV × Nat)
 | .lp k off=>match cz s.boxes k with
  | some cs=>some (cs,off)
  | none=>none
 | .v (.ptr id off)=>match nth s.G id with
  | some (.row cs _)=>some (cs,off)
  | _=>none
 | .v (.ep cs)=>some (cs,0)
 | _=>none
def tF (n:Nat):SV→Option SV
 | .lp k off=>some (.lp k (off+n))
 | .v (.ptr id off)=>some (.v (.ptr id (off+n)))
 | .v (.ep cs)=>some (.v (.ep (dC n cs)))
 | .v (.gp id f i off sz t)=>some (.v (.gp id f i (off+n) sz t))
 | _=>none
def uz (t:Bool):AV→AV→AV
 | .bool x,.bool y=>.bool (bif t then x else y)
 | .int k x,.int k' y=>if k=k' then .int k (bif t then x else y) else (bif t then .int k x else .int k' y)
 | a,b=>bif t then a else b
def zR (ag:Bool) (off sz:Nat) (cs:List AV):Option AV:=
 if ag then (match zQ off sz cs with | some l=>od true l | none=>none) else (match zQ off 1 cs with | some l=>od false l | none=>none)
mutual
def iE:EK→AV→AV→Option Bool
 | .bool,.bool a,.bool b=>some (a == b)
 | .int,.int k a,.int k' b=>if k=k' then some (a == b) else none
 | .str,.str a,.str b=>some (a == b)
 | .st fs,.agg xs,.agg ys=>oe fs xs ys
 | _,_,_=>none
def oe:Jj→List AV→List AV→Option Bool
 | .nil,_,_=>some true
 | .cons off sz ag k rest,xs,ys=>match zR ag off sz xs,zR ag off sz ys with
  | some a,some b=>match iE k a b,oe rest xs ys with
   | some t,some u=>some (t&&u)
   | _,_=>none
  | _,_=>none
end
def AR (k:IntKind) (a b:Int):Int:=k.wrap (BitVec.ofInt k.bits a &&& BitVec.ofInt k.bits b).toNat
def O7 (k:IntKind) (a b:Int):Int:=k.wrap (BitVec.ofInt k.bits a ||| BitVec.ofInt k.bits b).toNat
def AS (k:IntKind) (a b:Int):Int:=k.wrap (BitVec.ofInt k.bits a ^^^ BitVec.ofInt k.bits b).toNat
def vM (op:BinOp) (x y:AV):Option (Bool × AV):=
 match x,y with
 | .int k a,.int k' b=>
  match op with
  | .shl=>some (decide (0≤b),.int k (k.wrap (a * 2 ^ (min b.toNat k.bits))))
  | .shr=>some (decide (0≤b),.int k (a.fdiv (2 ^ (min b.toNat k.bits))))
  | _=>if k=k' then
    match op with
    | .add=>some (true,.int k (k.wrap (a+b)))
    | .sub=>some (true,.int k (k.wrap (a - b)))
    | .mul=>some (true,.int k (k.wrap (a * b)))
    | .quo=>some (!(decide (b=0)),.int k (k.wrap (a.tdiv b)))
    | .rem=>some (!(decide (b=0)),.int k (a.tmod b))
    | .and=>some (true,.int k (AR k a b))
    | .or=>some (true,.int k (O7 k a b))
    | .xor=>some (true,.int k (AS k a b))
    | .eql=>some (true,.bool (a == b))
    | .neq=>some (true,.bool (a != b))
    | .lss=>some (true,.bool (a < b))
    | .leq=>some (true,.bool (a≤b))
    | .gtr=>some (true,.bool (a > b))
    | .geq=>some (true,.bool (a≥b))
    | _=>none
   else none
 | .str a,.str b=>
  match op with
  | .add=>some (decide (a.length+b.length≤9223372036854775807),.str (a++b))
  | .eql=>some (true,.bool (a == b))
  | .neq=>some (true,.bool (!(a == b)))
  | .lss=>some (true,.bool (Op.bytesLess a b))
  | .leq=>some (true,.bool (Op.bytesLess a b || a == b))
  | .gtr=>some (true,.bool (!(Op.bytesLess a b || a == b)))
  | .geq=>some (true,.bool (!(Op.bytesLess a b)))
  | _=>none
 | _,_=>none
end Go.Am
namespace Go.Am
open Go
def St.kill (s:St) (d:Nat):St:=⟨.kill d :: s.ae,s.boxes,s.G,s.marks,s.ro,s.n⟩
def AV.aG:AV→Bool
 | .aR _=>false
 | _=>true
def St.cJ (s:St) (o:GO):St:=⟨s.ae,s.boxes,s.G++[o],s.marks,s.ro,s.n⟩
def St.bp (s:St) (G:List GO):St:=⟨s.ae,s.boxes,G,s.marks,s.ro,s.n⟩
def St.pU (s:St) (d:Nat) (cs:List AV):St:=⟨s.ae,(d,cs) :: s.boxes,s.G,s.marks,s.ro,s.n⟩
def dc (E:Env) (f:FuncId) (s:St) (dst:Option Tmp) (el:TypeId) (cs:List AV):Option (Bool × St):=
 match dst with
 | none=>none
 | some d=>
  if E.tc f d then some (true,(s.cJ (.row cs el)).put (some d) (.v (.ptr s.G.length 0)))
  else match Nat.blt d s.n with
   | true=>some (true,((s.kill d).pU d cs).put (some d) (.lp d 0))
   | false=>none
def jf (E:Env) (ae:aL):List Operand→Option (List AV)
 | []=>some []
 | x :: l=>match aY E ae x,jf E ae l with
  | .v a,some r=>some (a :: r)
  | _,_=>none
def EU (E:Env) (ae:aL):List (Nat × Operand)→Option (List (Nat × AV))
 | []=>some []
 | (i,x) :: l=>match aY E ae x,EU E ae l with
  | .v a,some r=>some ((i,a) :: r)
  | _,_=>none
def placeOf:TK→Nat→Option (Nat × Nat)
 | .st fs,j=>match nth fs j with
  | some (o,sz,_)=>some (o,sz)
  | none=>none
 | .arr _ esz _,j=>some (j * esz,esz)
 | _,_=>none
def oY (place:Nat→Option (Nat × Nat)) (cells:List AV):List (Nat × AV)→Option (List AV)
 | []=>some cells
 | (i,v) :: rest=>match place i with
  | none=>none
  | some (off,sz)=>
   if v.aG&&Nat.beq v.cells.length sz&&Nat.ble (off+sz) cells.length then oY place (bt cells off v.cells) rest else none
def vN (esz:Nat) (es:List AV):List (Nat × AV)→Option (List AV)
 | []=>some es
 | (i,v) :: rest=>
  if v.aG&&Nat.beq v.cells.length esz&&Nat.ble (i+1) es.length&&v.closed then vN esz (aw es i v) rest else none
def jG (E:Env) (s:St) (t:TypeId) (parts:List (Nat × Operand)):Option AV:=
 match E.ti t,EU E s.ae parts with
 | some i,some ps=>match i.zero with
  | some z=>match oY (placeOf i.k) z.cells ps with
   | some cs=>if i.agg&&z.aG then some (.agg cs) else none
   | none=>none
  | none=>none
 | _,_=>none
def tG:List (Nat × AV)→List (Nat × AV)
 | []=>[]
 | (i,v) :: l=>(i,v.eu) :: tG l
def bq (E:Env) (s:St) (t:TypeId) (len:Nat) (parts:List (Nat × Operand)):Option AV:=
 match E.ti t,EU E s.ae parts with
 | some i,some ps=>match i.k with
  | .sl _ esz _ _ (some z)=>
    if Nat.beq z.cells.length esz&&Nat.ble 1 esz&&Nat.ble (len * esz) 16777216&&z.aG&&z.closed then
     match vN esz (List.replicate len z) (tG ps) with
     | some es=>some (.list .full esz es)
     | none=>none
    else none
  | _=>none
 | _,_=>none
def mT (E:Env) (s:St) (t:TypeId) (p:SV):Option AV:=
 match E.ti t,jF s p with
 | some i,some (cs,off)=>match zQ off i.size cs with
  | some l=>od i.agg l
  | none=>none
 | _,_=>none
def fW (E:Env) (s:St) (t:TypeId) (p x:SV):Option St:=
 match E.ti t,x with
 | some i,.v v=>
  if v.aG&&Nat.beq v.cells.length i.size then
   match p with
   | .lp k off=>match cz s.boxes k with
    | some cs=>if Nat.ble (off+v.cells.length) cs.length then some (s.pU k (bt cs off v.cells)) else none
    | none=>none
   | .v (.ptr id off)=>match nth s.G id with
    | some (.row cs el)=>if Nat.ble (off+v.cells.length) cs.length then some (s.bp (aw s.G id (.row (bt cs off v.cells) el))) else none
    | _=>none
   | _=>none
  else none
 | _,_=>none
def bM (es:List AV) (n:Nat):AV:=match nth es n with
 | some e=>e
 | none=>dL
def fG:List GO→Nat→TypeId→Nat→Option Nat
 | [],_,_,_=>none
 | .aM _ sz e :: G,a8,e',i=>match fG G a8 e' (i+1) with
  | some j=>some j
  | none=>bif Nat.beq sz a8&&Nat.beq e e' then some i else none
 | _ :: G,a8,e',i=>fG G a8 e' (i+1)
def av.fin (G:List GO):av→av
 | .aM e sz p=>match fG G sz e 0 with
  | some id=>.aM id sz p
  | none=>.aM e sz p
 | .agg ps=>.agg (Mc ps)
 | p=>p
where
 Mc:aB→aB
  | .nil=>.nil
  | .cons p ps=>.cons (match p with
   | .aM e sz q=>match fG G sz e 0 with
    | some id=>.aM id sz q
    | none=>.aM e sz q
   | p=>p) (Mc ps)
def Ir (E:Env) (G:List GO) (t:TypeId):Option av:=match E.Ov t with
 | some p=>some (p.fin G)
 | none=>E.Iq t
def qM (E:Env) (s:St) (id f i sz:Nat) (t:TypeId):Option (Bool × AV):=match nth s.G id with
 | some (.dw es a8 _)=>match Ir E s.G t with
  | some p=>if Nat.beq sz a8 then some (decide (f=es.length)&&decide (i < es.length)&&p.fits (bM es i),p.enc (p.aX (bM es i))) else none
  | none=>if Nat.beq sz a8 then some (decide (f=es.length)&&decide (i < es.length),bM es i) else none
 | _=>none
def tH (E:Env) (s:St) (t:TypeId) (p:SV):Option (Bool × AV):=match p with
 | .v (.gp id f i off sz ty)=>match E.ti t,qM E s id f i sz ty with
  | some ti,some (c,v)=>match zQ off ti.size v.cells with
   | some l=>match od ti.agg l with
    | some r=>some (c,r)
    | none=>none
   | none=>none
  | _,_=>none
 | p=>match mT E s t p with
  | some v=>some (true,v)
  | none=>none
def fX (E:Env) (s:St) (t:TypeId) (p x:SV):Option (Bool × St):=match p with
 | .v (.gp id f i off sz ty)=>match E.ti t,x,nth s.G id with
  | some ti,.v x,some (.dw es a8 el)=>
   if x.aG&&Nat.beq x.cells.length ti.size&&Nat.beq sz a8 then
    if Nat.beq off 0&&Nat.beq ti.size sz then some (decide (f=es.length)&&decide (i < es.length),s.bp (aw s.G id (.dw (aw es i x) a8 el)))
    else match qM E s id f i sz ty with
     | some (c,.agg cs)=>if Nat.ble (off+ti.size) cs.length&&Nat.beq cs.length sz then some (c,s.bp (aw s.G id (.dw (aw es i (.agg (bt cs off x.cells))) a8 el))) else none
     | _=>none
   else none
  | _,_,_=>none
 | p=>match fW E s t p x with
  | some s'=>some (true,s')
  | none=>none
def gN (E:Env) (t:TypeId) (x ix:SV):Option (Bool × SV):=
 match E.ti t,ix with
 | some i,.v (.int _ n)=>match i.k,x with
  | .sl _ esz _ _ _,.v (.list _ sz es)=>if Nat.beq sz esz || es.isEmpty then
    match E.Iq t with
    | some p=>some (decide (0≤n∧n < es.length)&&p.fits (bM es n.toNat),.v (.ep (p.enc (p.aX (bM es n.toNat))).cells))
    | none=>some (decide (0≤n∧n < es.length),.v (.ep (bM es n.toNat).cells))
   else none
  | .sl _ esz _ _ _,.v (.gn id off sz len _)=>if Nat.beq sz esz then some (decide (0≤n∧n < len),.v (.ptr id (off+n.toNat * sz))) else none
  | .sl _ esz _ _ _,.v (.dI id f off sz len)=>if Nat.beq sz esz then some (decide (0≤n∧n < len),.v (.gp id f (off+n.toNat) 0 sz t)) else none
  | .arr len esz _,.v (.ep cs)=>match E.Iq t with
   | some p=>if Nat.beq esz 1&&Nat.ble len cs.length then some (decide (0≤n∧n < len)&&p.fits (bM cs n.toNat),.v (.ep [p.enc (p.aX (bM cs n.toNat))])) else none
   | none=>some (decide (0≤n∧n < len),.v (.ep (dC (n.toNat * esz) cs)))
  | .arr len esz _,p=>match tF (n.toNat * esz) p with
   | some q=>some (decide (0≤n∧n < len),q)
   | none=>none
  | _,_=>none
 | _,_=>none
def gO (E:Env) (t:TypeId) (x:SV) (j:Nat):Option SV:=
 match E.ti t with
 | some i=>match i.k with
  | .st fs=>match nth fs j with
   | some (o,sz,_)=>if Nat.ble 1 sz then tF o x else none
   | none=>none
  | _=>none
 | none=>none
def xX (E:Env) (t:TypeId) (x:SV) (j:Nat):Option AV:=
 match E.ti t,x with
 | some i,.v (.agg cs)=>match i.k with
  | .st fs=>match nth fs j with
   | some (o,sz,ag)=>if ag then (match zQ o sz cs with | some l=>od true l | none=>none) else (match zQ o 1 cs with | some l=>od false l | none=>none)
   | none=>none
  | _=>none
 | _,_=>none
def xY (E:Env) (t:TypeId) (x ix:SV):Option (Bool × AV):=
 match E.ti t,x,ix with
 | some i,.v (.str l),.v (.int _ n)=>match i.k with
  | .str=>some (decide (0≤n∧n < l.length),.int .u8 (l.getD n.toNat 0).toNat)
  | _=>none
 | some i,.v (.agg cs),.v (.int _ n)=>match i.k with
  | .arr len esz ag=>match (if ag then (match zQ (n.toNat * esz) esz cs with | some l=>od true l | none=>none) else (match zQ (n.toNat * esz) 1 cs with | some l=>od false l | none=>none)) with
   | some v=>some (decide (0≤n∧n < len),v)
   | none=>none
  | _=>none
 | _,_,_=>none
def uA (y:Nat):SV→Option (Bool × Nat)
 | .v (.int _ n)=>some (decide (0≤n∧n≤y),n.toNat)
 | _=>none
def mg {α:Type} (lo hi:Nat) (l:List α):List α:=(l.take hi).drop lo
def jH (E:Env) (ae:aL):Option Operand→Option (Option SV)
 | none=>some none
 | some x=>some (some (aY E ae x))
def xZ (len:Nat) (lo hi:Option SV):Option (Bool × Nat × Nat):=
 match (match hi with | none=>some (true,len) | some h=>uA len h) with
 | none=>none
 | some (c1,h)=>match (match lo with | none=>some (true,0) | some l=>uA h l) with
  | none=>none
  | some (c2,l)=>some (c1&&c2,l,h)
def Md (agg:Bool) (l:List AV):AV:=match agg with
 | true=>.agg l
 | false=>cP l
def eP (agg:Bool) (sz:Nat):Nat→List AV→List AV
 | 0,_=>[]
 | n+1,cs=>Md agg (cs.take sz) :: eP agg sz n (cs.drop sz)
def x5 (ag:Bool) (e:AV):Bool:=e.aG&&(ag || e.one)&&e.closed
def uB (E:Env) (t:TypeId) (x:SV) (lo hi:Option SV) (mx:Option Operand):Option (Bool × AV):=
 match E.ti t,mx with
 | some i,none=>match i.k,x with
  | .str,.v (.str l)=>match xZ l.length lo hi with
   | some (c,a,b)=>some (c,.str (mg a b l))
   | none=>none
  | .sl _ esz _ _ _,.v (.list k sz es)=>
   if Nat.beq sz esz || es.isEmpty then
    match xZ es.length lo hi with
    | some (c,a,b)=>some (c,.list (match k with | .nil=>.nil | .full=>(match hi with | none=>.full | some _=>.iy) | _=>.iy) esz (mg a b es))
    | none=>none
   else none
  | .sl _ esz _ _ _,.v (.gn id off sz len cap)=>
   if Nat.beq sz esz then
    match xZ len lo hi with
    | some (c,a,b)=>some (c,.gn id (bif Nat.beq cap a then off else off+a * sz) sz (b - a) (cap - a))
    | none=>none
   else none
  | .sl _ esz _ _ _,.v (.dI id f off sz len)=>
   if Nat.beq sz esz then
    match xZ len lo hi with
    | some (c,a,b)=>some (c,.dI id f (off+a) sz (b - a))
    | none=>none
   else none
  | .arr len esz ag,.v (.ep cs)=>match lo,hi with
   | none,none=>if Nat.ble (len * esz) cs.length&&Nat.ble 1 esz&&(ag || Nat.beq esz 1)&&allFit (x5 ag) (eP ag esz len cs) then some (true,.list .full esz (eP ag esz len cs)) else none
   | _,_=>none
  | _,_=>none
 | _,_=>none
def B6 (G:List GO) (id n:Nat) (f sz:Nat) (e:TypeId):List GO:=aw G id (.tok (f+n) sz e)
def AT (fs:List Nat) (j n:Nat):List Nat:=bif Nat.beq j fs.length then fs++[n] else aw fs j n
def Fb (fs:List Nat) (j n:Nat):Bool:=decide (nth fs j=some n) || (Nat.beq j fs.length&&Nat.beq n 0)
def dZ (G:List GO) (elem esz aT:Nat) (x:AV) (ys:List AV):Option (Bool × AV × List GO):=
 match x,ys with
 | .list k sz es,[]=>match k with
  | .nil=>some (true,.list .nil sz es,G)
  | k=>some (true,.list k sz es,G)
 | .list k sz es,y :: ys=>
  match k with
  | .nil=>some (decide ((es.length+(y :: ys).length) * aT≤140737488355328),.list (.own G.length) esz (es++(y :: ys)),G++[.tok (es.length+(y :: ys).length) esz elem])
  | .full=>if Nat.beq sz esz then some (decide ((es.length+(y :: ys).length) * aT≤140737488355328),.list (.own G.length) esz (es++(y :: ys)),G++[.tok (es.length+(y :: ys).length) esz elem]) else none
  | .own id=>match nth G id with
   | some (.tok f a8 e')=>if Nat.beq a8 esz&&Nat.beq e' elem&&Nat.beq sz esz then
     some (decide (f=es.length)&&decide ((es.length+(y :: ys).length) * aT≤140737488355328),.list (.own id) esz (es++(y :: ys)),B6 G id (y :: ys).length f esz elem) else none
   | _=>none
  | .aM id j=>match nth G id with
   | some (.aM fs a8 e')=>if Nat.beq a8 esz&&Nat.beq e' elem&&Nat.beq sz esz then
     some (Fb fs j es.length&&decide ((es.length+(y :: ys).length) * aT≤140737488355328),.list (.aM id j) esz (es++(y :: ys)),aw G id (.aM (AT fs j (es.length+(y :: ys).length)) esz elem)) else none
   | _=>none
  | .iy=>none
 | .dI id f off sz len,[]=>some (true,.dI id f off sz len,G)
 | .dI id f off sz len,y :: ys=>match nth G id with
  | some (.dw es a8 e')=>if Nat.beq a8 esz&&Nat.beq e' elem&&Nat.beq sz esz then
    some (decide (f=es.length)&&decide (off=0)&&decide (len=f)&&decide ((es.length+(y :: ys).length) * aT≤140737488355328),.dI id (es.length+(y :: ys).length) 0 esz (es.length+(y :: ys).length),aw G id (.dw (es++(y :: ys)) esz elem)) else none
  | _=>none
 | _,_=>none
def mU (b:UInt8):AV:=.int .u8 b.toNat
def fb (es:List AV):List UInt8:=es.map fun a=>UInt8.ofNat a.iz.toNat
def qN (es:List AV):List UInt8:=es.flatMap fun a=>(Utf8.encode a.iz).data.toList
def AU:AV→List AV→Option AV
 | x,[]=>some x
 | .int k x,.int k' y :: l=>if k=k' then AU (.int k (if y > x then y else x)) l else none
 | _,_=>none
def x6:AV→List AV→Option AV
 | x,[]=>some x
 | .int k x,.int k' y :: l=>if k=k' then x6 (.int k (if y < x then y else x)) l else none
 | .str x,.str y :: l=>x6 (.str (bif Op.bytesLess x y || x == y then x else y)) l
 | _,_=>none
def an:List AV→List AV
 | []=>[]
 | e :: es=>e.cells++an es
def mV (s:St) (esz:Nat) (d x:AV):Option (Nat × List GO):=
 match d with
 | .gn id off sz len _=>match nth s.G id with
  | some (.row cs el)=>
   if Nat.beq sz esz then
    match x with
    | .list _ a8 es=>if Nat.beq a8 esz || es.isEmpty then
      let n:=Nat.min es.length len
      let l:=an (es.take n)
      if Nat.ble (off+l.length) cs.length then some (n,aw s.G id (.row (bt cs off l) el)) else none
     else none
    | .str bs=>
      if Nat.beq esz 1&&Nat.ble (off+(bs.take (Nat.min bs.length len)).length) cs.length then some (Nat.min bs.length len,aw s.G id (.row (bt cs off ((bs.take (Nat.min bs.length len)).map mU)) el)) else none
    | .gn fU dM a8 x7 _=>match nth s.G fU with
     | some (.row cs' _)=>
      let n:=Nat.min x7 len
      match zQ dM (n * esz) cs' with
      | some l=>if Nat.beq a8 esz&&Nat.ble (off+l.length) cs.length then some (n,aw s.G id (.row (bt cs off l) el)) else none
      | none=>none
     | _=>none
    | _=>none
   else none
  | _=>none
 | .dI id f off sz len=>match nth s.G id,x with
  | some (.dw es a8 el),.list _ O8 xs=>if Nat.beq sz esz&&Nat.beq a8 sz&&(Nat.beq O8 esz || xs.isEmpty)&&Nat.ble f es.length&&Nat.ble es.length f&&Nat.ble (off+Nat.min xs.length len) es.length then
    some (Nat.min xs.length len,aw s.G id (.dw (bt es off (xs.take (Nat.min xs.length len))) a8 el)) else none
  | _,_=>none
 | _=>none
def bf (E:Env) (s:St) (dst:Option Tmp) (b:Builtin) (args:List AV) (tys:List TypeId):Option (Bool × St):=
 match b,args with
 | .len,[x]=>match tys with
  | t :: _=>match E.ti t with
   | some i=>match i.k,x with
    | .str,.str l=>some (true,s.put dst (.v (.int .i64 l.length)))
    | .sl ..,.list _ _ es=>some (true,s.put dst (.v (.int .i64 es.length)))
    | .sl ..,.gn _ _ _ len _=>some (true,s.put dst (.v (.int .i64 len)))
    | .sl ..,.dI _ _ _ _ len=>some (true,s.put dst (.v (.int .i64 len)))
    | .arr n _ _,_=>some (true,s.put dst (.v (.int .i64 n)))
    | .map ..,.gM=>some (true,s.put dst (.v (.int .i64 0)))
    | .map ..,.map id=>match nth s.G id with
     | some (.map es)=>some (true,s.put dst (.v (.int .i64 es.length)))
     | _=>none
    | _,_=>none
   | none=>none
  | _=>none
 | .append,[x,.list _ sz ys]=>match tys with
  | [t,u]=>match E.ti t with
   | some i=>match i.k with
    | .sl elem esz _ aT (some z)=>
     if (Nat.beq sz esz || ys.isEmpty)&&Nat.beq t u&&Nat.ble 1 esz&&Nat.ble 1 aT&&Nat.beq z.cells.length esz&&z.aG then
      match dZ s.G elem esz aT x ys with
      | some (c,v,G')=>some (c,(s.bp G').put dst (.v v))
      | none=>none
     else none
    | _=>none
   | none=>none
  | _=>none
 | .append,[x,.str bs]=>match tys with
  | [t,u]=>match E.ti t,E.ti u with
   | some i,some j=>match i.k,j.k with
    | .sl elem esz _ aT (some z),.str=>
     if Nat.beq esz 1&&Nat.ble 1 aT&&Nat.beq z.cells.length esz&&z.aG then
      match dZ s.G elem esz aT x (bs.map mU) with
      | some (c,v,G')=>some (c,(s.bp G').put dst (.v v))
      | none=>none
     else none
    | _,_=>none
   | _,_=>none
  | _=>none
 | .copy,[d,x]=>match tys with
  | t :: _=>match E.ti t with
   | some i=>match i.k with
    | .sl _ esz _ _ _=>match mV s esz d x with
     | some (n,G')=>some (true,(s.bp G').put dst (.v (.int .i64 n)))
     | none=>none
    | _=>none
   | none=>none
  | _=>none
 | .clear,[x]=>match dst,tys,x with
  | none,[t],.dI id f off sz len=>match E.ti t,nth s.G id with
   | some i,some (.dw es a8 el)=>match i.k with
    | .sl elem esz _ _ (some z)=>if Nat.beq sz esz&&Nat.beq a8 sz&&Nat.beq el elem&&Nat.beq z.cells.length esz&&z.aG&&z.closed then
      some (decide (f=es.length)&&decide (off+len≤es.length),s.bp (aw s.G id (.dw (bt es off (List.replicate len z)) a8 el))) else none
    | _=>none
   | _,_=>none
  | _,_,_=>none
 | .max,x :: l=>match AU x l with
  | some v=>some (true,s.put dst (.v v))
  | none=>none
 | .min,x :: l=>match x6 x l with
  | some v=>some (true,s.put dst (.v v))
  | none=>none
 | _,_=>none
def EK.plain:EK→Bool
 | .bool | .int | .str=>true
 | .st _=>true
 | _=>false
def EK.wide:EK→Bool
 | .st _=>true
 | _=>false
def qn:AV→Bool
 | .bool _=>true
 | .int _ _=>true
 | .str _=>true
 | _=>false
def mW:AV→AV→Bool
 | .bool a,.bool b=>a == b
 | .int k a,.int l b=>decide (k=l)&&a == b
 | .str a,.str b=>a == b
 | _,_=>false
def ko:List AV→List AV→Bool
 | [],[]=>true
 | a :: l,b :: r=>mW a b&&ko l r
 | _,_=>false
def jI:AV→AV→Bool
 | .agg xs,.agg ys=>ko xs ys
 | _,_=>false
def zS (e:EK) (a b:AV):Option Bool:=match iE e a b with
 | some true=>bif e.wide&&!jI a b then none else some true
 | r=>r
def fu (e:EK) (k:AV):List (AV × AV)→Option (Option AV)
 | []=>some none
 | (k',v) :: l=>match zS e k k' with
  | some true=>some (some v)
  | some false=>fu e k l
  | none=>none
def og (e:EK) (k v:AV):List (AV × AV)→Option (List (AV × AV))
 | []=>some [(k,v)]
 | (k',v') :: l=>match zS e k k' with
  | some true=>some ((k,v) :: l)
  | some false=>match og e k v l with
   | some r=>some ((k',v') :: r)
   | none=>none
  | none=>none
def fc:EK→AV→Bool
 | .bool,.bool _=>true
 | .int,.int _ _=>true
 | .str,.str _=>true
 | .st fs,.agg cs=>cs.all qn&&(oe fs cs cs).isSome
 | _,_=>false
def mapOf (s:St):SV→Option (List (AV × AV))
 | .v .gM=>some []
 | .v (.map id)=>match nth s.G id with
  | some (.map es)=>some es
  | _=>none
 | _=>none
def iR (G:List GO) (id:Nat):List Nat:=match nth G id with
 | some (.aM fs _ _)=>fs
 | _=>[]
def vO (E:Env) (G:List GO) (t:TypeId) (z:AV):AV:=match E.Ov t,z with
 | some (.aM e sz _),.list .nil _ []=>match fG G sz e 0 with
  | some id=>.list (.aM id (iR G id).length) sz []
  | none=>z
 | _,_=>z
def fI (E:Env) (s:St) (t:TypeId) (m k:SV):Option (AV × Bool):=match E.ti t,mapOf s m,k with
 | some i,some es,.v k=>match i.k with
  | .map kt _ (some z)=>match E.ti kt with
   | some j=>if j.ek.plain&&fc j.ek k then match fu j.ek k es with
     | some (some v)=>some (v,true)
     | some none=>some (z,false)
     | none=>none
    else none
   | none=>none
  | _=>none
 | _,_,_=>none
def iF (E:Env) (s:St) (t:TypeId) (m k:SV):Option (AV × Bool):=match fI E s t m k with
 | some (v,false)=>some (vO E s.G t v,false)
 | r=>r
def de (E:Env) (s:St) (t:TypeId) (m k x:SV):Option St:=match E.ti t,m,k,x with
 | some i,.v (.map id),.v k,.v x=>match i.k,nth s.G id with
  | .map kt _ _,some (.map es)=>match E.ti kt with
   | some j=>if j.ek.plain&&fc j.ek k then match og j.ek k x es with
     | some es'=>some (s.bp (aw s.G id (.map es')))
     | none=>none
    else none
   | none=>none
  | _,_=>none
 | _,_,_,_=>none
def lg (l:List UInt8) (pos:Nat):Nat × Nat:=
 bif Nat.blt (l.getD pos 0).toNat 128 then ((l.getD pos 0).toNat,1) else Utf8.decode ⟨⟨l⟩⟩ pos
def iG (s:St) (dst:Option Tmp) (x:SV):Option St:=match x with
 | .v (.ptr id 0)=>match nth s.G id with
  | some (.eo l pos)=>bif Nat.blt pos l.length then
    match lg l pos with
    | (c,n)=>some ((s.bp (aw s.G id (.eo l (pos+n)))).put dst (.v (.aR [.bool true,.int .i64 pos,.int .i32 c])))
   else some (s.put dst (.v (.aR [.bool false])))
  | _=>none
 | _=>none
def cK (es:List (AV × AV)) (i:Nat):AV × AV:=match nth es i with
 | some e=>e
 | none=>(dL,dL)
def Jn (E:Env) (kt:TypeId):Option av:=match E.Iq kt with
 | some p=>some p
 | none=>match E.ti kt with
  | some i=>match i.k with
   | .int k=>some (.int k)
   | .str=>some .str
   | _=>none
  | none=>none
def mX (E:Env) (t:TypeId) (e:AV × AV):Bool × AV × AV:=match E.ti t with
 | some i=>match i.k with
  | .map kt _ _=>match E.Iq t,Jn E kt with
   | some pv,some pk=>(pk.fits e.1&&pv.fits e.2,pk.enc (pk.aX e.1),pv.enc (pv.aX e.2))
   | _,_=>(true,e.1,e.2)
  | _=>(true,e.1,e.2)
 | none=>(true,e.1,e.2)
def tJ (E:Env) (s:St) (dst:Option Tmp) (x:SV):Option (Bool × St × List Nat × (Nat→Bool × St)):=match x with
 | .v (.ptr id 0)=>match nth s.G id with
  | some (.kf me n left _ t)=>match nth s.G me with
   | some (.map es)=>some (decide (es.length=n),s.put dst (.v (.aR [.bool false])),left,
     fun i=>((mX E t (cK es i)).1,(s.bp (aw s.G id (.kf me n (left.erase i) (some i) t))).put dst (.v (.aR [.bool true,(mX E t (cK es i)).2.1,(mX E t (cK es i)).2.2]))))
   | _=>none
  | _=>none
 | _=>none
def oh (E:Env) (s:St) (o:Oper):Option (Bool × St × List Nat × (Nat→Bool × St)):=match o.op with
 | .next x false=>tJ E s o.dst (aY E s.ae x)
 | _=>none
def O9 (E:Env) (op:BinOp) (t:TypeId) (a b:AV):Option Bool:=match op,E.ti t with
 | .eql,some i=>iE i.ek a b
 | .neq,some i=>match iE i.ek a b with
  | some r=>some (!r)
  | none=>none
 | _,_=>none
def gq (E:Env) (s:St) (t:TypeId) (len:Nat) (parts:List (Nat × Operand)):Option (List AV):=
 match E.ti t,EU E s.ae parts with
 | some i,some ps=>match i.k with
  | .sl _ esz _ _ (some z)=>
    if Nat.beq z.cells.length esz&&Nat.ble 1 esz&&Nat.ble (len * esz) 16777216&&z.aG then
     oY (fun i=>some (i * esz,esz)) (an (List.replicate len z)) (tG ps)
    else none
  | _=>none
 | _,_=>none
def fJ (E:Env) (f:FuncId) (s:St) (o:Oper):Option St:=match o.op with
 | .buildSlice t len parts=>match o.dst with
  | some d=>if E.tc f d then match E.ti t with
    | some i=>match i.k,bq E s t len parts.toList with
     | .sl elem _ _ _ _,some (.list _ esz es)=>some ((s.cJ (.row (an es) elem)).put (some d) (.v (.gn s.G.length 0 esz len len)))
     | .sl elem esz _ _ _,none=>match gq E s t len parts.toList with
      | some cs=>some ((s.cJ (.row cs elem)).put (some d) (.v (.gn s.G.length 0 esz len len)))
      | none=>none
     | _,_=>none
    | none=>none
   else if E.tc f (d+196608) then match E.ti t with
    | some i=>match i.k,bq E s t len parts.toList with
     | .sl elem _ _ _ _,some (.list _ esz es)=>if Nat.ble len 65536 then some ((s.cJ (.dw es esz elem)).put (some d) (.v (.dI s.G.length len 0 esz len))) else none
     | _,_=>none
    | none=>none
   else if E.tc f (d+65536) then match E.ti t with
    | some i=>match i.k,bq E s t len parts.toList with
     | .sl elem _ _ _ _,some (.list _ esz es)=>if Nat.ble len 65536 then some ((s.cJ (.tok len esz elem)).put (some d) (.v (.list (.own s.G.length) esz es))) else none
     | _,_=>none
    | none=>none
   else none
  | none=>none
 | _=>none
def tK (wk:Bool) (es:List AV):List AV:=match wk with
 | true=>es.map AV.eu
 | false=>es
def jj (wk:Bool):List AV→List GO→Bool × List AV × List GO
 | [],G=>(true,[],G)
 | .dI id f 0 sz len :: l,G=>match nth G id with
  | some (.dw es a8 _)=>match jj wk l (aw G id .dead) with
   | (c,r,G')=>(decide (f=es.length)&&decide (len=es.length)&&Nat.beq sz a8&&aK (tK wk es)&&c,.list .iy sz (tK wk es) :: r,G')
  | _=>match jj wk l G with
   | (_,r,G')=>(false,r,G')
 | a :: l,G=>match jj wk l G with
  | (c,r,G')=>(c,a :: r,G')
def lh (cut wk:Bool) (s:St) (t:Tmp):Option (Bool × St):=match lk s.ae t with
 | .v (.dI id f off sz len)=>match nth s.G id with
  | some (.dw es a8 _)=>if Nat.beq off 0&&Nat.beq sz a8 then
    some (decide (f=es.length)&&(bif cut then decide (len≤es.length) else decide (len=es.length))&&aK (tK wk es),⟨.put t (.v (.list .iy sz (tK wk (bif cut then es.take len else es)))) :: s.ae,s.boxes,aw s.G id .dead,s.marks,s.ro,s.n⟩) else none
  | _=>none
 | .v (.ptr id 0)=>match nth s.G id with
  | some (.row cs _)=>some (aK cs,⟨.put t (.v (.ep cs)) :: s.ae,s.boxes,aw s.G id .dead,s.marks,s.ro,s.n⟩)
  | _=>none
 | .v (.agg cs)=>match jj wk cs s.G with
  | (c,cs',G')=>some (c,⟨.put t (.v (.agg cs')) :: s.ae,s.boxes,G',s.marks,s.ro,s.n⟩)
 | _=>none
def eH (cut wk:Bool):List Operand→St→Bool × St
 | [],s=>(true,s)
 | .tmp t :: l,s=>match lh cut wk s t with
  | some (c,s')=>match eH cut wk l s' with
   | (c',s2)=>(c&&c',s2)
  | none=>eH cut wk l s
 | _ :: l,s=>eH cut wk l s
def AW (E:Env) (f:FuncId) (s:St) (o:Oper):Option (Bool × St):=match o.dst with
 | some d=>if E.tc f (d+262144) then some (eH (E.tc f (d+393216)) (E.tc f (d+458752)) o.op.operands.toList s) else none
 | none=>none
def jk (E:Env) (s:St) (a b:TypeId) (x:SV):Option (Bool × AV):=
 match E.ti a,E.ti b,x with
 | some i,some j,.v x=>match j.k,x with
  | .int k,.int _ n=>some (true,.int k (k.wrap n))
  | .str,.list _ sz es=>match i.k with
   | .sl elem 1 _ _ _=>match E.ti elem with
    | some e=>match e.k with
     | .int .u8=>some ((Nat.beq sz 1 || es.isEmpty)&&allFit (av.fits (.int .u8)) es,.str (fb es))
     | .int .i32=>some ((Nat.beq sz 1 || es.isEmpty)&&allFit (av.fits (.int .i32)) es,.str (qN es))
     | _=>none
    | none=>none
   | _=>none
  | .str,.gn id off 1 len _=>match i.k,nth s.G id with
   | .sl elem 1 _ _ _,some (.row cs _)=>match E.ti elem with
    | some e=>match e.k with
     | .int .u8=>some (Nat.ble (off+len) cs.length&&allFit (av.fits (.int .u8)) (mg off (off+len) cs),.str (fb (mg off (off+len) cs)))
     | _=>none
    | none=>none
   | _,_=>none
  | _,_=>none
 | _,_,_=>none
def AX (id sz:Nat):List AV→List Nat→Option (List AV × List Nat)
 | [],fs=>some ([],fs)
 | .list .nil _ [] :: l,fs=>match AX id sz l (fs++[0]) with
  | some (r,uC)=>some (.list (.aM id fs.length) sz [] :: r,uC)
  | none=>none
 | .list .full a8 es :: l,fs=>if Nat.beq sz a8 then match AX id sz l (fs++[es.length]) with
   | some (r,uC)=>some (.list (.aM id fs.length) sz es :: r,uC)
   | none=>none
  else none
 | _ :: _,_=>none
def qo (e:EK) (k k':AV):Bool:=match zS e k k' with
 | some b=>b
 | none=>false
def ew (e:EK) (k:AV):List (AV × AV)→Bool
 | []=>true
 | (k',_) :: l=>(zS e k k').isSome&&ew e k l
def dj (e:EK) (k:AV):List (AV × AV)→Option AV
 | []=>none
 | (k',v) :: l=>bif qo e k k' then some v else dj e k l
def dm (e:EK) (k v:AV):List (AV × AV)→List (AV × AV)
 | []=>[(k,v)]
 | (k',v') :: l=>bif qo e k k' then (k,v) :: l else (k',v') :: dm e k v l
def bO (e:EK) (k z:AV) (es:List (AV × AV)):AV:=(dj e k es).getD z
def ey (e:EK) (k:AV):List (AV × AV)→Nat
 | []=>0
 | (k',_) :: l=>bif qo e k k' then 0 else ey e k l+1
def fe:List (AV × AV)→Nat→AV→List (AV × AV)
 | [],_,_=>[]
 | (k,_) :: l,0,x=>(k,x) :: l
 | e :: l,n+1,x=>e :: fe l n x
def ol (E:Env) (s:St) (x:SV):Option (Bool × AV):=match x with
 | .v (.ptr id 0)=>match nth s.G id with
  | some (.kf me n _ (some i) t)=>match nth s.G me with
   | some (.map es)=>some (decide (es.length=n)&&decide (i < n)&&(mX E t (cK es i)).1,.aR [(mX E t (cK es i)).2.1,(mX E t (cK es i)).2.2])
   | _=>none
  | _=>none
 | _=>none
def ea (E:Env) (s:St) (t:TypeId) (m k:SV):Option (Bool × AV × St):=match E.ti t,m,k with
 | some i,.v (.map id),.v k=>match i.k,nth s.G id with
  | .map kt _ (some z),some (.map es)=>match E.ti kt with
   | some j=>if j.ek.plain&&fc j.ek k then
     some (ew j.ek k es,.aR [bO j.ek k z es,.int .i64 (ey j.ek k es:Nat)],s.bp (aw s.G id (.map (dm j.ek k (bO j.ek k z es) es)))) else none
   | none=>none
  | _,_=>none
 | _,_,_=>none
def cQ (s:St) (m st x:SV):Option (Bool × St):=match m,st,x with
 | .v (.map id),.v (.int .i64 n),.v v=>match nth s.G id with
  | some (.map es)=>some (decide (0≤n)&&decide (n.toNat < es.length),s.bp (aw s.G id (.map (fe es n.toNat v))))
  | _=>none
 | _,_,_=>none
def eA (E:Env) (f:FuncId) (s:St) (o:Oper):Option (Bool × St):=match o.dst with
 | some d=>if E.tc f (d+524288) then match o.op with
   | .call { callee:=.builtin .append,args,argTypes }=>match jf E s.ae args.toList,argTypes.toList with
    | some [.dI id g off sz len,.list k Q9 (y :: ys)],[t,u]=>match E.ti t with
     | some i=>match i.k with
      | .sl elem esz _ aT (some z)=>match E.ti elem with
       | some j=>match j.k with
        | .sl e2 Is _ _ _=>match fG s.G Is e2 0 with
         | some iw=>match AX iw Is (y :: ys) (iR s.G iw),nth s.G id with
          | some (AY,uC),some (.dw es a8 e')=>
           if Nat.beq Q9 esz&&Nat.beq a8 esz&&Nat.beq e' elem&&Nat.beq sz esz&&Nat.beq t u&&Nat.ble 1 esz&&Nat.ble 1 aT&&Nat.beq z.cells.length esz&&z.aG then
            some (decide (g=es.length)&&decide (off=0)&&decide (len=g)&&decide ((es.length+(y :: ys).length) * aT≤140737488355328),
             (s.bp (aw (aw s.G iw (.aM uC Is e2)) id (.dw (es++AY) esz elem))).put o.dst (.v (.dI id (es.length+(y :: ys).length) 0 esz (es.length+(y :: ys).length))))
           else none
          | _,_=>none
         | none=>none
        | _=>none
       | none=>none
      | _=>none
     | none=>none
    | _,_=>none
   | _=>none
  else none
 | none=>none
def oZ (E:Env) (f:FuncId) (s:St) (o:Oper):Option (Bool × St):=match o.dst with
 | some d=>if E.tc f (d+524288) then match o.op with
   | .lookup t m k ok=>match E.Ov t,E.ti t,aY E s.ae m,aY E s.ae k with
    | some (.aM e sz p),some i,.v (.map id),.v k=>match i.k,nth s.G id with
     | .map kt _ (some (.list .nil _ [])),some (.map es)=>match E.ti kt,fG s.G sz e 0 with
      | some j,some iw=>if j.ek.plain&&fc j.ek k then
        some (ew j.ek k es&&(av.aM iw sz p).fits (bO j.ek k (.list (.aM iw (iR s.G iw).length) sz []) es),
         (s.bp (aw s.G iw (.aM (iR s.G iw++[0]) sz e))).put o.dst (.v (if ok then .aR [(av.aM iw sz p).enc ((av.aM iw sz p).aX (bO j.ek k (.list (.aM iw (iR s.G iw).length) sz []) es)),.bool (dj j.ek k es).isSome]
          else (av.aM iw sz p).enc ((av.aM iw sz p).aX (bO j.ek k (.list (.aM iw (iR s.G iw).length) sz []) es)))))
       else none
      | _,_=>none
     | _,_=>none
    | _,_,_,_=>none
   | _=>none
  else none
 | none=>none
def Pa (E:Env) (f:FuncId) (d:Option Tmp):Bool:=match d with
 | some d=>E.tc f (d+196608)
 | none=>false
def aj (E:Env) (f:FuncId) (s:St) (o:Oper):Option (Bool × St):=
 match o.op with
 | .move x=>match aY E s.ae x with
  | .v a=>some (true,s.put o.dst (.v a))
  | .lp k off=>some (true,s.put o.dst (.lp k off))
  | .none=>some (true,s.put o.dst .none)
 | .assign x=>match aY E s.ae x with
  | .v a=>some (true,s.put o.dst (.v a))
  | .lp k off=>some (true,s.put o.dst (.lp k off))
  | .none=>some (true,s.put o.dst .none)
 | .pick c a b=>match aY E s.ae c,aY E s.ae a,aY E s.ae b with
  | .v (.bool t),.v x,.v y=>some (true,s.put o.dst (.v (uz t x y)))
  | _,_,_=>none
 | .alloc e=>match E.ti e with
  | some i=>match i.zero with
   | some z=>if z.aG then dc E f s o.dst e z.cells else none
   | none=>none
  | none=>none
 | .box t x=>match aY E s.ae x with
  | .v v=>if v.aG then dc E f s o.dst t v.cells else none
  | _=>none
 | .build t parts=>match jG E s t parts.toList with
  | some v=>some (true,s.put o.dst (.v v))
  | none=>none
 | .buildSlice t len parts=>match bq E s t len parts.toList with
  | some v=>some (true,s.put o.dst (.v v))
  | none=>none
 | .load t a=>match tH E s t (aY E s.ae a) with
  | some (c,v)=>some (c,s.put o.dst (.v v))
  | none=>none
 | .store t a x=>match o.dst,fX E s t (aY E s.ae a) (aY E s.ae x) with
  | none,some (c,s')=>some (c,s')
  | _,_=>none
 | .binOp op t x y _=>match aY E s.ae x,aY E s.ae y with
  | .v a,.v b=>match vM op a b with
   | some (c,v)=>some (c,s.put o.dst (.v v))
   | none=>match O9 E op t a b with
    | some r=>some (true,s.put o.dst (.v (.bool r)))
    | none=>none
  | _,_=>none
 | .unOp op _ x=>match op,aY E s.ae x with
  | .not,.v (.bool b)=>some (true,s.put o.dst (.v (.bool (!b))))
  | .neg,.v (.int k n)=>some (true,s.put o.dst (.v (.int k (k.wrap (0 - n)))))
  | _,_=>none
 | .convert a b x=>match jk E s a b (aY E s.ae x) with
  | some (c,v)=>some (c,s.put o.dst (.v v))
  | none=>none
 | .nilCheck x=>match aY E s.ae x with
  | .v (.ptr id off)=>some (true,s.put o.dst (.v (.ptr id off)))
  | .lp k off=>some (true,s.put o.dst (.lp k off))
  | _=>none
 | .makeFunc (.func g) first captured=>match jf E s.ae first.toList,jf E s.ae captured.toList with
  | some x,some y=>some (true,s.put o.dst (.v (.fn g x y)))
  | _,_=>none
 | .fieldAddr t x j=>match gO E t (aY E s.ae x) j with
  | some p=>some (true,s.put o.dst p)
  | none=>none
 | .field t x j=>match xX E t (aY E s.ae x) j with
  | some v=>some (true,s.put o.dst (.v v))
  | none=>none
 | .indexAddr t x ix=>match gN E t (aY E s.ae x) (aY E s.ae ix) with
  | some (c,p)=>some (c,s.put o.dst p)
  | none=>none
 | .index t x ix=>match xY E t (aY E s.ae x) (aY E s.ae ix) with
  | some (c,v)=>some (c,s.put o.dst (.v v))
  | none=>none
 | .slice t x lo hi mx=>match jH E s.ae lo,jH E s.ae hi with
  | some l,some h=>match uB E t (aY E s.ae x) l h mx with
   | some (c,v)=>some (c,s.put o.dst (.v v))
   | none=>none
  | _,_=>none
 | .extract x i=>match aY E s.ae x with
  | .v (.aR vs)=>match nth vs i with
   | some v=>some (true,s.put o.dst (.v v))
   | none=>none
  | _=>none
 | .makeSlice t l c=>match E.ti t,aY E s.ae l,aY E s.ae c with
  | some i,.v (.int _ n),.v (.int _ m)=>match i.k with
   | .sl elem esz _ aT (some z)=>
    if Nat.beq z.cells.length esz&&Nat.ble 1 esz&&z.aG then
     if Pa E f o.dst then (if z.closed then some (decide (0≤n∧n≤m∧m≤140737488355328∧m * aT≤140737488355328),
      (s.cJ (.dw (List.replicate n.toNat z) esz elem)).put o.dst (.v (.dI s.G.length n.toNat 0 esz n.toNat))) else none)
     else some (decide (0≤n∧n≤m∧m≤140737488355328∧m * aT≤140737488355328),
      (s.cJ (.row (an (List.replicate m.toNat z)) elem)).put o.dst (.v (.gn s.G.length 0 esz n.toNat m.toNat)))
    else none
   | _=>none
  | _,_,_=>none
 | .lookup t m k ok=>match iF E s t (aY E s.ae m) (aY E s.ae k) with
  | some (v,b)=>some (true,s.put o.dst (.v (if ok then .aR [v,.bool b] else v)))
  | none=>none
 | .mapUpdate t m k x=>match o.dst,de E s t (aY E s.ae m) (aY E s.ae k) (aY E s.ae x) with
  | none,some s'=>some (true,s')
  | _,_=>none
 | .insert t m k x=>match o.dst,de E s t (aY E s.ae m) (aY E s.ae k) (aY E s.ae x) with
  | none,some s'=>some (true,s')
  | _,_=>none
 | .entry x=>match ol E s (aY E s.ae x) with
  | some (c,v)=>some (c,s.put o.dst (.v v))
  | none=>none
 | .mapEntry t m k=>match ea E s t (aY E s.ae m) (aY E s.ae k) with
  | some (c,v,s')=>some (c,s'.put o.dst (.v v))
  | none=>none
 | .entryStore _ m st x=>match o.dst,cQ s (aY E s.ae m) (aY E s.ae st) (aY E s.ae x) with
  | none,some (c,s')=>some (c,s')
  | _,_=>none
 | .range t x=>match E.ti t,aY E s.ae x with
  | some i,.v (.str l)=>match i.k with
   | .str=>some (true,(s.cJ (.eo l 0)).put o.dst (.v (.ptr s.G.length 0)))
   | _=>none
  | some i,.v (.map id)=>match i.k,nth s.G id with
   | .map _ _ _,some (.map es)=>some (true,(s.cJ (.kf id es.length (List.range es.length) none t)).put o.dst (.v (.ptr s.G.length 0)))
   | _,_=>none
  | _,_=>none
 | .next x true=>match iG s o.dst (aY E s.ae x) with
  | some s'=>some (true,s')
  | none=>none
 | .makeMap _ none=>some (true,(s.cJ (.map [])).put o.dst (.v (.map s.G.length)))
 | .call { callee:=.builtin b,args,argTypes }=>match eA E f s o with
  | some r=>some r
  | none=>match jf E s.ae args.toList with
   | some l=>bf E s o.dst b l argTypes.toList
   | none=>none
 | _=>none
end Go.Am
namespace Go.Am
open Go
inductive TR where
 | aZ
 | full (f:Nat)
 | tok (f b c:Nat)
inductive RO where
 | none
 | aZ
 | bn (b:Nat)
 | tok (f b c:Nat)
 | aM (ts:List TR)
def RO.has:RO→Nat→Prop
 | .none,_=>False
 | .aZ,_=>False
 | .bn b,x=>x=b
 | .tok _ b _,x=>x=b
 | .aM ts,x=>∃ j f c,nth ts j=some (.tok f x c)
def fK (sz:Nat) (es:List AV):Prop:=∀ e∈es,e.cells.length=sz∧e.aG=true∧e.closed=true
def cC (sz:Nat) (es:List AV):Prop:=∀ e∈es,e.cells.length=sz∧e.aG=true
theorem fK.g {sz:Nat} {es:List AV} (h:fK sz es):cC sz es:=fun e he=>⟨(h e he).1,(h e he).2.1⟩
structure ah where
 I:Nat→Nat→Prop
 obj:List RO
def It (b o len cap:Nat):RO→Prop
 | .none=>True
 | .aZ=>False
 | .bn _=>False
 | .tok f b' c'=>len≤f∧(len=f→b=b'∧o=0∧cap=c')
 | .aM _=>False
def Fc (b o len cap:Nat):TR→Prop
 | .aZ=>False
 | .full f=>len≤f∧(len=f→cap=len)
 | .tok f b' c'=>len≤f∧(len=f→b=b'∧o=0∧cap=c')
def Me (b o len cap j:Nat):RO→Prop
 | .none=>True
 | .aZ=>False
 | .bn _=>False
 | .tok _ _ _=>False
 | .aM ts=>∃ t,nth ts j=some t∧Fc b o len cap t
def om:RO→Prop
 | .none=>True
 | .aZ=>False
 | .bn _=>False
 | .tok _ _ _=>False
 | .aM _=>True
def jJ:RO→Prop
 | .none=>True
 | .aZ=>True
 | .bn _=>False
 | .tok f _ _=>1≤f
 | .aM _=>False
def AZ (b o f off sz cap:Nat):RO→Prop
 | .none=>True
 | .aZ=>False
 | .bn _=>False
 | .tok f' b' c'=>f≤f'∧(f=f'→b=b'∧off+cap=c'∧(o=off * sz∨cap=0))
 | .aM _=>False
def B7 (b o f i off sz:Nat):RO→Prop
 | .none=>True
 | .aZ=>False
 | .bn _=>False
 | .tok f' b' _=>f≤f'∧(f=f'→b=b'∧o=i * sz+off)
 | .aM _=>False
def uD (R:ah) (k:LK) (b o len cap:Nat):Prop:=match k with
 | .nil=>False
 | .full=>cap=len
 | .iy=>True
 | .own id=>∃ ro,nth R.obj id=some ro∧It b o len cap ro
 | .aM id j=>∃ ro,nth R.obj id=some ro∧Me b o len cap j ro
mutual
inductive Rel (R:ah) (w:World):AV→Value→Prop
 | bool (b:Bool):Rel R w (.bool b) (.bool b)
 | int (k:IntKind) (n:Int):Rel R w (.int k n) (.int k n)
 | str (l:List UInt8):Rel R w (.str l) (.string ⟨⟨l⟩⟩)
 | agg {cs:List AV} {vs:List Value} (h:aA R w cs vs) (h1:∀ v∈vs,v.oneCell'=true):Rel R w (.agg cs) (.agg ⟨vs⟩)
 | aR {cs:List AV} {vs:List Value} (h:aA R w cs vs):Rel R w (.aR cs) (.tuple ⟨vs⟩)
 | fa:Rel R w .fa (.pointer none)
 | ptr {id off b:Nat} (h:nth R.obj id=some (.bn b)):Rel R w (.ptr id off) (.pointer (some ⟨b,off,none⟩))
 | ep {cs:List AV} {b o:Nat} (h:cG R w b o cs):Rel R w (.ep cs) (.pointer (some ⟨b,o,none⟩))
 | gr {sz:Nat}:Rel R w (.list .nil sz []) (.slice none 0 0)
 | fy {sz:Nat}:Rel R w (.list .iy sz []) (.slice none 0 0)
 | jK {sz:Nat} {a:Addr}:Rel R w (.list .iy sz []) (.slice (some a) 0 0)
 | jl {id sz:Nat} {ro:RO} (h:nth R.obj id=some ro) (ho:jJ ro):Rel R w (.list (.own id) sz []) (.slice none 0 0)
 | iS {id j sz:Nat} {ro:RO} (h:nth R.obj id=some ro) (ho:om ro):Rel R w (.list (.aM id j) sz []) (.slice none 0 0)
 | list {k:LK} {sz:Nat} {es:List AV} {b o len cap:Nat} (h:ee R w b o sz es) (hl:len=es.length) (hc:len≤cap) (hk:uD R k b o len cap):Rel R w (.list k sz es) (.slice (some ⟨b,o,none⟩) len cap)
 | gn {id off sz len cap b:Nat} (h:nth R.obj id=some (.bn b)) (hc:len≤cap):Rel R w (.gn id off sz len cap) (.slice (some ⟨b,off,none⟩) len cap)
 | gu {id sz:Nat} {ro:RO} (h:nth R.obj id=some ro) (ho:jJ ro):Rel R w (.dI id 0 0 sz 0) (.slice none 0 0)
 | dI {id f off sz len cap b o:Nat} {ro:RO} (h:nth R.obj id=some ro) (ho:AZ b o f off sz cap ro) (hc:len≤cap):Rel R w (.dI id f off sz len) (.slice (some ⟨b,o,none⟩) len cap)
 | gp {id f i off sz b o:Nat} {t:TypeId} {ro:RO} (h:nth R.obj id=some ro) (ho:B7 b o f i off sz ro):Rel R w (.gp id f i off sz t) (.pointer (some ⟨b,o,none⟩))
 | gM:Rel R w .gM (.map none)
 | map {id b:Nat} (h:nth R.obj id=some (.bn b)):Rel R w (.map id) (.map (some b))
 | bE:Rel R w .bE .nilFunc
 | fn {f:FuncId} {xs ys:List AV} {vs us:List Value} (h:aA R w xs vs) (h':aA R w ys us):Rel R w (.fn f xs ys) (.func (.func f) ⟨vs⟩ ⟨us⟩)
 | yield {id b:Nat} (h:nth R.obj id=some (.bn b)):Rel R w (.yield id) (.func (.yield b) #[] #[])
 | kj:Rel R w .kj .nilIface
 | iface {t:TypeId} {v:AV} {c:Value} (h:Rel R w v c):Rel R w (.iface t v) (.iface t c)
inductive aA (R:ah) (w:World):List AV→List Value→Prop
 | nil:aA R w [] []
 | cons {a:AV} {c:Value} {l:List AV} {cs:List Value} (h:Rel R w a c) (t:aA R w l cs):aA R w (a :: l) (c :: cs)
inductive ee (R:ah) (w:World):Nat→Nat→Nat→List AV→Prop
 | nil {b o sz:Nat}:ee R w b o sz []
 | cons {b o sz:Nat} {e:AV} {es:List AV} (hl:e.cells.length=sz) (ht:e.aG=true) (hk:e.closed=true) (h:cG R w b o e.cells) (t:ee R w b (o+sz) sz es):ee R w b o sz (e :: es)
inductive cG (R:ah) (w:World):Nat→Nat→List AV→Prop
 | nil {b o:Nat}:cG R w b o []
 | cons {b o:Nat} {a:AV} {c:Value} {l:List AV} (hc:w.cell? ⟨b,o,none⟩=some c) (h1:c.oneCell'=true) (hi:R.I b o) (h:Rel R w a c) (t:cG R w b (o+1) l):cG R w b o (a :: l)
end
def iT:TR→TR→Prop
 | .aZ,.aZ=>True
 | .aZ,.full _=>False
 | .aZ,.tok f _ _=>1≤f
 | .full _,.aZ=>False
 | .full f,.full f'=>f'=f
 | .full f,.tok f' _ _=>f < f'
 | .tok _ _ _,.aZ=>False
 | .tok _ _ _,.full _=>False
 | .tok f b c,.tok f' b' c'=>f≤f'∧(f'=f→b'=b∧c'=c)
theorem iT.refl (t:TR):iT t t:=by cases t <;> simp [iT]
theorem iT.trans {a b c:TR} (h:iT a b) (k:iT b c):iT a c:=by
 cases a <;> cases b <;> cases c <;> simp only [iT] at * <;> omega
def oo (ts LF:List TR):Prop:=∀ j t,nth ts j=some t→∃ t',nth LF j=some t'∧iT t t'
theorem oo.refl (ts:List TR):oo ts ts:=fun _ t h=>⟨t,h,iT.refl t⟩
theorem oo.trans {a b c:List TR} (h:oo a b) (k:oo b c):oo a c:=fun j t hj=>
 let ⟨_,h1,h2⟩:=h j t hj
 let ⟨t2,k1,k2⟩:=k j _ h1
 ⟨t2,k1,h2.trans k2⟩
def bF:RO→RO→Prop
 | .none,r=>r=.none
 | .bn b,r=>r=.bn b
 | .aZ,.none=>True
 | .aZ,.aZ=>True
 | .aZ,.bn _=>False
 | .aZ,.tok f _ _=>1≤f
 | .tok _ _ _,.none=>True
 | .tok _ _ _,.aZ=>False
 | .tok _ _ _,.bn _=>False
 | .tok f b c,.tok f' b' c'=>f≤f'∧(f'=f→b'=b∧c'=c)
 | .aZ,.aM _=>False
 | .tok _ _ _,.aM _=>False
 | .aM _,.none=>True
 | .aM _,.aZ=>False
 | .aM _,.bn _=>False
 | .aM _,.tok _ _ _=>False
 | .aM ts,.aM LF=>oo ts LF
theorem bF.refl (r:RO):bF r r:=by cases r <;> simp [bF,oo.refl]
theorem bF.trans {a b c:RO} (h:bF a b) (k:bF b c):bF a c:=by
 cases a with
 | none=>simp only [bF] at h; subst h; exact k
 | bn x=>simp only [bF] at h; subst h; exact k
 | aZ=>
  cases b with
  | none=>simp only [bF] at k; subst k; trivial
  | aZ=>exact k
  | bn z=>exact h.elim
  | tok f' x' y'=>
   cases c with
   | none=>trivial
   | aZ=>exact k.elim
   | bn z=>exact k.elim
   | aM _=>exact k.elim
   | tok f'' x'' y''=>simp only [bF] at *; omega
  | aM _=>exact h.elim
 | tok f x y=>
  cases b with
  | none=>simp only [bF] at k; subst k; trivial
  | aZ=>exact h.elim
  | bn z=>exact h.elim
  | tok f' x' y'=>
   cases c with
   | none=>trivial
   | aZ=>exact k.elim
   | bn z=>exact k.elim
   | tok f'' x'' y''=>
    simp only [bF] at *
    refine ⟨Nat.le_trans h.1 k.1,fun e=>?_⟩
    obtain ⟨h1,h2⟩:=h; obtain ⟨k1,k2⟩:=k
    have e1:f'=f:=by omega
    have e2:f''=f':=by omega
    exact ⟨(k2 e2).1.trans (h2 e1).1,(k2 e2).2.trans (h2 e1).2⟩
   | aM _=>exact k.elim
  | aM _=>exact h.elim
 | aM ts=>
  cases b with
  | none=>simp only [bF] at k; subst k; trivial
  | aZ=>exact h.elim
  | bn z=>exact h.elim
  | tok f' x' y'=>exact h.elim
  | aM LF=>
   cases c with
   | none=>trivial
   | aZ=>exact k.elim
   | bn z=>exact k.elim
   | tok f' x' y'=>exact k.elim
   | aM ts''=>exact oo.trans h k
def mY (r r':Loop):Prop:=r'.tmps=r.tmps∧r'.params=r.params∧r'.assign=r.assign∧r'.body=r.body∧r'.defers=r.defers
def er (w w':World):Prop:=∀ (b:Nat) (r:Loop),w.heap[b]?=some (Obj.loop r)→∃ r',w'.heap[b]?=some (Obj.loop r')∧mY r r'
theorem er.refl (w:World):er w w:=fun _ r h=>⟨r,h,rfl,rfl,rfl,rfl,rfl⟩
theorem er.trans {w w1 w2:World} (h:er w w1) (k:er w1 w2):er w w2:=fun b r hb=>
 let ⟨_,h1,h2,h3,h4,h5,h6⟩:=h b r hb
 let ⟨r2,k1,k2,k3,k4,k5,k6⟩:=k b _ h1
 ⟨r2,k1,k2.trans h2,k3.trans h3,k4.trans h4,k5.trans h5,k6.trans h6⟩
theorem er.old {w w':World} (h:∀ b,b < w.heap.size→w'.heap[b]?=w.heap[b]?):er w w':=fun b r hb=>
 ⟨r,(h b (by
  rcases Nat.lt_or_ge b w.heap.size with bD | qO
  ·exact bD
  ·rw [Array.getElem?_eq_none qO] at hb; cases hb)).trans hb,rfl,rfl,rfl,rfl,rfl⟩
structure Ext (R:ah) (w:World) (R':ah) (w':World):Prop where
 I:∀ b o,R.I b o→R'.I b o
 cell:∀ b o,R.I b o→w'.cell? ⟨b,o,none⟩=w.cell? ⟨b,o,none⟩
 obj:∀ id ro,nth R.obj id=some ro→∃ jg,nth R'.obj id=some jg∧bF ro jg
 lp:er w w'
theorem Ext.refl (R:ah) (w:World):Ext R w R w:=⟨fun _ _ h=>h,fun _ _ _=>rfl,fun _ ro h=>⟨ro,h,bF.refl ro⟩,er.refl w⟩
theorem Ext.trans {R R' Fe:ah} {w w' Iu:World} (h:Ext R w R' w') (k:Ext R' w' Fe Iu):Ext R w Fe Iu:=
 ⟨fun b o hi=>k.I b o (h.I b o hi),fun b o hi=>(k.cell b o (h.I b o hi)).trans (h.cell b o hi),fun id ro hr=>
  let ⟨_,h1,h2⟩:=h.obj id ro hr
  let ⟨r2,h3,h4⟩:=k.obj id _ h1
  ⟨r2,h3,h2.trans h4⟩,h.lp.trans k.lp⟩
theorem Ext.bn {R R':ah} {w w':World} (h:Ext R w R' w') {id b:Nat} (hb:nth R.obj id=some (.bn b)):nth R'.obj id=some (.bn b):=by
 obtain ⟨r,h1,h2⟩:=h.obj id _ hb
 simp only [bF] at h2
 subst h2
 exact h1
theorem uD.mono {R R':ah} {w w':World} (e:Ext R w R' w') {k:LK} {b o len cap:Nat} (h:uD R k b o len cap):uD R' k b o len cap:=by
 cases k with
 | nil=>exact h
 | full=>exact h
 | iy=>trivial
 | own id=>
  obtain ⟨ro,h1,h2⟩:=h
  obtain ⟨jg,h3,h4⟩:=e.obj id ro h1
  refine ⟨jg,h3,?_⟩
  cases ro with
  | none=>simp only [bF] at h4; subst h4; trivial
  | aZ=>exact h2.elim
  | bn x=>exact h2.elim
  | tok f x y=>
   cases jg with
   | none=>trivial
   | aZ=>exact h4.elim
   | bn z=>exact h4.elim
   | tok f' x' y'=>
    simp only [bF,It] at *
    refine ⟨by omega,fun e=>?_⟩
    have e1:f'=f:=by omega
    have h5:=h2.2 (by omega)
    have h6:=h4.2 e1
    exact ⟨h5.1.trans h6.1.symm,h5.2.1,h5.2.2.trans h6.2.symm⟩
   | aM _=>exact h4.elim
  | aM _=>exact h2.elim
 | aM id j=>
  obtain ⟨ro,h1,h2⟩:=h
  obtain ⟨jg,h3,h4⟩:=e.obj id ro h1
  refine ⟨jg,h3,?_⟩
  cases ro with
  | none=>simp only [bF] at h4; subst h4; trivial
  | aZ=>exact h2.elim
  | bn x=>exact h2.elim
  | tok _ _ _=>exact h2.elim
  | aM ts=>
   cases jg with
   | none=>trivial
   | aZ=>exact h4.elim
   | bn z=>exact h4.elim
   | tok _ _ _=>exact h4.elim
   | aM LF=>
    obtain ⟨t,k1,k2⟩:=h2
    obtain ⟨t',k3,k4⟩:=h4 j t k1
    refine ⟨t',k3,?_⟩
    cases t with
    | aZ=>exact k2.elim
    | full f=>
     cases t' with
     | aZ=>exact k4.elim
     | full f'=>simp only [iT,Fc] at *; subst k4; exact k2
     | tok f' x' y'=>simp only [iT,Fc] at *; exact ⟨by omega,fun e=>by omega⟩
    | tok f x y=>
     cases t' with
     | aZ=>exact k4.elim
     | full f'=>exact k4.elim
     | tok f' x' y'=>
      simp only [iT,Fc] at *
      refine ⟨by omega,fun e=>?_⟩
      have e1:f'=f:=by omega
      have h5:=k2.2 (by omega)
      have h6:=k4.2 e1
      exact ⟨h5.1.trans h6.1.symm,h5.2.1,h5.2.2.trans h6.2.symm⟩
theorem jJ.mono {ro jg:RO} (h:jJ ro) (e:bF ro jg):jJ jg:=by
 cases ro with
 | none=>simp only [bF] at e; subst e; trivial
 | aZ=>cases jg <;> first | trivial | exact e.elim | exact e
 | bn _=>exact h.elim
 | tok f x y=>
  cases jg with
  | none=>trivial
  | aZ=>exact e.elim
  | bn z=>exact e.elim
  | tok f' x' y'=>simp only [bF,jJ] at *; omega
  | aM _=>exact e.elim
 | aM _=>exact h.elim
theorem om.mono {ro jg:RO} (h:om ro) (e:bF ro jg):om jg:=by
 cases ro with
 | none=>simp only [bF] at e; subst e; trivial
 | aZ=>exact h.elim
 | bn _=>exact h.elim
 | tok _ _ _=>exact h.elim
 | aM ts=>
  cases jg with
  | none=>trivial
  | aZ=>exact e.elim
  | bn z=>exact e.elim
  | tok _ _ _=>exact e.elim
  | aM LF=>trivial
theorem AZ.mono {b o f off sz cap:Nat} {ro jg:RO} (h:AZ b o f off sz cap ro) (e:bF ro jg):AZ b o f off sz cap jg:=by
 cases ro with
 | none=>simp only [bF] at e; subst e; trivial
 | aZ=>exact h.elim
 | bn _=>exact h.elim
 | tok f1 x y=>
  cases jg with
  | none=>trivial
  | aZ=>exact e.elim
  | bn z=>exact e.elim
  | tok f' x' y'=>
   simp only [bF,AZ] at *
   refine ⟨by omega,fun k=>?_⟩
   obtain ⟨e1,e2⟩:=e.2 (by omega)
   obtain ⟨h1,h2,h3⟩:=h.2 (by omega)
   exact ⟨h1.trans e1.symm,h2.trans e2.symm,h3⟩
  | aM _=>exact e.elim
 | aM _=>exact h.elim
theorem B7.mono {b o f i off sz:Nat} {ro jg:RO} (h:B7 b o f i off sz ro) (e:bF ro jg):B7 b o f i off sz jg:=by
 cases ro with
 | none=>simp only [bF] at e; subst e; trivial
 | aZ=>exact h.elim
 | bn _=>exact h.elim
 | tok f1 x y=>
  cases jg with
  | none=>trivial
  | aZ=>exact e.elim
  | bn z=>exact e.elim
  | tok f' x' y'=>
   simp only [bF,B7] at *
   refine ⟨by omega,fun k=>?_⟩
   obtain ⟨e1,e2⟩:=e.2 (by omega)
   obtain ⟨h1,h2⟩:=h.2 (by omega)
   exact ⟨h1.trans e1.symm,h2⟩
  | aM _=>exact e.elim
 | aM _=>exact h.elim
mutual
theorem Rel.mono {R R':ah} {w w':World} (e:Ext R w R' w'):∀ {a:AV} {c:Value},Rel R w a c→Rel R' w' a c
 | _,_,.bool b=>.bool b
 | _,_,.int k n=>.int k n
 | _,_,.str l=>.str l
 | _,_,.agg h h1=>.agg (h.mono e) h1
 | _,_,.aR h=>.aR (h.mono e)
 | _,_,.fa=>.fa
 | _,_,.ptr h=>.ptr (e.bn h)
 | _,_,.ep h=>.ep (h.mono e)
 | _,_,.gr=>.gr
 | _,_,.fy=>.fy
 | _,_,.jK=>.jK
 | _,_,.jl h ho=>let ⟨_,h3,h4⟩:=e.obj _ _ h; .jl h3 (ho.mono h4)
 | _,_,.iS h ho=>let ⟨_,h3,h4⟩:=e.obj _ _ h; .iS h3 (ho.mono h4)
 | _,_,.list h hl hc hk=>.list (h.mono e) hl hc (hk.mono e)
 | _,_,.gn h hc=>.gn (e.bn h) hc
 | _,_,.gu h ho=>let ⟨_,h3,h4⟩:=e.obj _ _ h; .gu h3 (ho.mono h4)
 | _,_,.dI h ho hc=>let ⟨_,h3,h4⟩:=e.obj _ _ h; .dI h3 (ho.mono h4) hc
 | _,_,.gp h ho=>let ⟨_,h3,h4⟩:=e.obj _ _ h; .gp h3 (ho.mono h4)
 | _,_,.gM=>.gM
 | _,_,.map h=>.map (e.bn h)
 | _,_,.bE=>.bE
 | _,_,.fn h h'=>.fn (h.mono e) (h'.mono e)
 | _,_,.yield h=>.yield (e.bn h)
 | _,_,.kj=>.kj
 | _,_,.iface h=>.iface (h.mono e)
theorem aA.mono {R R':ah} {w w':World} (e:Ext R w R' w'):∀ {l:List AV} {cs:List Value},aA R w l cs→aA R' w' l cs
 | _,_,.nil=>.nil
 | _,_,.cons h t=>.cons (h.mono e) (t.mono e)
theorem ee.mono {R R':ah} {w w':World} (e:Ext R w R' w'):∀ {b o sz:Nat} {l:List AV},ee R w b o sz l→ee R' w' b o sz l
 | _,_,_,_,.nil=>.nil
 | _,_,_,_,.cons hl ht hk h t=>.cons hl ht hk (h.mono e) (t.mono e)
theorem cG.mono {R R':ah} {w w':World} (e:Ext R w R' w'):∀ {b o:Nat} {l:List AV},cG R w b o l→cG R' w' b o l
 | _,_,_,.nil=>.nil
 | _,_,_,.cons hc h1 hi h t=>.cons ((e.cell _ _ hi).trans hc) h1 (e.I _ _ hi) (h.mono e) (t.mono e)
end
end Go.Am
namespace Go.Am
open Go
section lists
variable {α:Type}
theorem aJ (l:List α) (n:Nat):nth l n=l[n]?:=by
 induction l generalizing n with
 | nil=>simp [nth]
 | cons a l ih=>cases n <;> simp [nth,ih]
theorem eI (l:List α) (n:Nat) (x:α):aw l n x=l.set n x:=by
 induction l generalizing n with
 | nil=>simp [aw]
 | cons a l ih=>cases n <;> simp [aw,ih]
theorem ba {l:List α} {n:Nat} {x:α} (h:nth l n=some x):n < l.length:=by
 rw [aJ] at h
 exact (List.getElem?_eq_some_iff.1 h).1
theorem az {l:List α} {n:Nat} {x y:α} (h:nth l n=some y):nth (aw l n x) n=some x:=by
 have:=ba h
 rw [aJ,eI,List.getElem?_set_self this]
theorem a7 {l:List α} {n m:Nat} {x:α} (h:n≠m):nth (aw l n x) m=nth l m:=by
 rw [aJ,eI,aJ,List.getElem?_set_ne h]
theorem ca {l:List α} {n m:Nat} {x y:α} (h:nth (aw l n x) m=some y):(n=m∧y=x∧m < l.length)∨(n≠m∧nth l m=some y):=by
 by_cases e:n=m
 ·subst e
  have hl:=ba h
  rw [eI,List.length_set] at hl
  rw [aJ,eI,List.getElem?_set_self hl] at h
  exact .inl ⟨rfl,(Option.some.inj h).symm,hl⟩
 ·rw [a7 e] at h
  exact .inr ⟨e,h⟩
@[simp] theorem eT (l:List α) (n:Nat) (x:α):(aw l n x).length=l.length:=by rw [eI,List.length_set]
theorem dN (l:List α) (x:α):nth (l++[x]) l.length=some x:=by rw [aJ]; simp
theorem cb {l:List α} {n:Nat} {y x:α} (h:nth l n=some y):nth (l++[x]) n=some y:=by
 have:=ba h
 rw [aJ] at *
 rw [List.getElem?_append_left this]
 exact h
theorem ao {l:List α} {n:Nat} {y x:α} (h:nth (l++[x]) n=some y):nth l n=some y∨(n=l.length∧y=x):=by
 rw [aJ] at *
 by_cases e:n < l.length
 ·rw [List.getElem?_append_left e] at h; exact .inl h
 ·rw [List.getElem?_append_right (by omega)] at h
  have hl:=(List.getElem?_eq_some_iff.1 h).1
  simp at hl
  have:n - l.length=0:=by omega
  rw [this] at h
  simp at h
  exact .inr ⟨by omega,h.symm⟩
theorem jm:∀ {l:List α} {n:Nat} {x:α},nth l n=some x→aw l n x=l
 | [],_,_,h=>by cases h
 | a :: l,0,x,h=>by cases h; rfl
 | a :: l,n+1,x,h=>by
  show a :: aw l n x=a :: l
  rw [jm (show nth l n=some x from h)]
end lists
def Jo (R:ah) (w:World) (Mf:aL→Array Value→Prop) (busy:Bool) (pending:Option Code) (ae:aL) (n:Nat) (params:List Tmp) (assign body:Code) (defers:Nat) (done:Bool) (b:Nat):Prop:=
 ∃ (r:Loop) (db:Nat),w.heap[b]?=some (.loop r)∧r.state=(if done then .done else if busy then .busy else .ready)∧r.pending=pending ∧
  Mf ae r.tmps∧r.tmps.size=n∧r.params=⟨params⟩∧r.assign=assign∧r.body=body∧r.defers=db∧nth R.obj defers=some (.bn db)
def lE (R:ah) (w:World) (β:Nat→Nat):SV→Value→Prop
 | .none,_=>True
 | .v a,c=>Rel R w a c
 | .lp k off,c=>c=.pointer (some ⟨β k,off,none⟩)
def kp (R:ah) (w:World) (β:Nat→Nat) (ae:aL) (tmps:Array Value):Prop:=
 ∀ i,lk ae i≠.none→∃ c,tmps[i]?=some c∧lE R w β (lk ae i) c
def zT:aL→Bool
 | []=>true
 | .put _ (.lp _ _) :: _=>false
 | _ :: l=>zT l
def ck (R:ah) (w:World):List (AV × AV)→List MapEntry→Prop
 | [],[]=>True
 | (k,v) :: l,e :: es=>Rel R w k e.key∧Rel R w v e.val∧ck R w l es
 | _,_=>False
def tL (R:ah) (w:World) (sz:Nat) (e:TypeId) (f:Nat):TR→Prop
 | .aZ=>f=0
 | .full f'=>f'=f
 | .tok f' b c=>f'=f∧∃ cur,w.heap[b]?=some (.cells cur e (0,0))∧f≤c∧c≤maxLen∧cur.size=c * sz∧∀ o,f * sz≤o→¬ R.I b o
def Mg (ts:List TR):Prop:=∀ i j f b c f' c',nth ts i=some (.tok f b c)→nth ts j=some (.tok f' b c')→i=j
def qP (R:ah) (w:World) (sz:Nat) (e:TypeId) (fs:List Nat) (ts:List TR):Prop:=
 ts.length=fs.length∧Mg ts∧∀ j f t,nth fs j=some f→nth ts j=some t→tL R w sz e f t
def fY (ar:Array MapEntry) (clock:Nat):Prop:=clock=ar.size∧∀ (i:Nat) (e:MapEntry),ar.toList[i]?=some e→e.born=i
def Mh (R:ah) (w:World) (me n:Nat) (left:List Nat) (cur:Option Nat) (b:Nat):Prop:=
 ∃ bm seen c0,nth R.obj me=some (.bn bm)∧w.heap[b]?=some (.mapIter (some bm) n seen c0)∧(∀ i,i < n→(i∈left↔seen.contains i=false))∧(∀ i∈left,i < n)∧left.Nodup∧n≤c0∧∀ i,cur=some i→seen.back?=some i∧c0=n
def eB (R:ah) (w:World):GO→RO→Prop
 | .dead,.none=>True
 | .dead,.aZ=>True
 | .dead,.bn b=>b < w.heap.size
 | .dead,.tok _ b _=>b < w.heap.size
 | .dead,.aM ts=>∀ j f b c,nth ts j=some (.tok f b c)→b < w.heap.size
 | .aM fs sz e,.aM ts=>qP R w sz e fs ts
 | .kf me n left cur _,.bn b=>Mh R w me n left cur b
 | .tok f _ _,.aZ=>f=0
 | .row cs el,.bn b=>∃ vs,w.heap[b]?=some (.cells ⟨vs⟩ el (0,0))∧aA R w cs vs∧(∀ v∈vs,v.oneCell'=true)∧∀ o,¬ R.I b o
 | .tok f sz e,.tok f' b c=>f'=f∧∃ cur,w.heap[b]?=some (.cells cur e (0,0))∧f≤c∧c≤maxLen∧cur.size=c * sz∧∀ o,f * sz≤o→¬ R.I b o
 | .dw es _ _,.aZ=>es=[]
 | .dw es sz e,.tok f b c=>f=es.length∧cC sz es∧∃ cur vs,w.heap[b]?=some (.cells cur e (0,0))∧f≤c∧c≤maxLen∧cur.size=c * sz∧(∀ o,¬ R.I b o)∧aA R w (an es) vs∧(∀ v∈vs,v.oneCell'=true)∧cur.toList.take (f * sz)=vs
 | .map es,.bn b=>∃ ar clock,w.heap[b]?=some (.map ar clock)∧ck R w es ar.toList∧fY ar clock
 | .eo l pos,.bn b=>w.heap[b]?=some (.stringIter ⟨⟨l⟩⟩ pos)
 | .loop busy pending _ ae n params assign body defers done,.bn b=>Jo R w (kp R w (fun _=>0)) busy pending ae n params assign body defers done b∧zT ae=true
 | .defers o,.bn b=>w.heap[b]?=some (.deferred (if o then some [] else none))
 | _,_=>False
def fZ (E:Env) (R:ah) (w:World) (g:Nat) (cs:List AV):Prop:=
 cG R w g 0 cs∧(E.gx g=true→R.I g cs.length∧w.cell? ⟨g,cs.length,none⟩=none)
theorem fZ.mono {E:Env} {R R':ah} {w w':World} {g:Nat} {cs:List AV} (h:fZ E R w g cs) (e:Ext R w R' w'):fZ E R' w' g cs:=
 ⟨h.1.mono e,fun hx=>⟨e.I _ _ (h.2 hx).1,(e.cell _ _ (h.2 hx).1).trans (h.2 hx).2⟩⟩
structure cu (E:Env) (R:ah) (w:World) (G:List GO):Prop where
 len:R.obj.length=G.length
 obj:∀ id go ro,nth G id=some go→nth R.obj id=some ro→eB R w go ro
 inj:∀ i j ri rj b,nth R.obj i=some ri→nth R.obj j=some rj→ri.has b→rj.has b→i=j
 wf:∀ b o,R.I b o→b < w.heap.size
 bY:∀ g cs,E.bY g=some cs→fZ E R w g cs
 lo:E.lo≤w.drawn
def Live (R:ah) (b:Nat):Prop:=∃ id ro,nth R.obj id=some ro∧ro.has b
structure Ff (R:ah) (w:World) (β:Nat→Nat) (boxes:bK):Prop where
 box:∀ k cs,cz boxes k=some cs→(∃ vs el,w.heap[β k]?=some (.cells ⟨vs⟩ el (0,0))∧aA R w cs vs∧(∀ v∈vs,v.oneCell'=true))∧(∀ o,¬ R.I (β k) o)∧¬ Live R (β k)
 inj:∀ k k' cs cs',cz boxes k=some cs→cz boxes k'=some cs'→β k=β k'→k=k'
def lF (R:ah):List Nat→List Deferred→Prop
 | [],[]=>True
 | id :: l,d :: ds=>(∃ b,nth R.obj id=some (.bn b)∧d={ target:=.collected b,args:=#[] })∧lF R l ds
 | _,_=>False
structure aP (E:Env) (R:ah) (w:World) (β:Nat→Nat) (s:St) (a:Act):Prop where
 g:cu E R w s.G
 b:Ff R w β s.boxes
 t:kp R w β s.ae a.tmps
 n:a.tmps.size=s.n
 d:lF R s.marks a.defers
def Own (R:ah) (β:Nat→Nat) (boxes:bK) (b:Nat):Prop:=
 Live R b∨∃ k cs,cz boxes k=some cs∧β k=b
structure Step (R:ah) (w:World) (β:Nat→Nat) (bx:bK) (R':ah) (w':World) (β':Nat→Nat) (B8:bK):Prop where
 ext:Ext R w R' w'
 os:w'.os=w.os
 tape:w'.tape=w.tape
 output:w'.output=w.output
 size:w.heap.size≤w'.heap.size
 bA:∀ b,b < w.heap.size→¬ Own R β bx b→w'.heap[b]?=w.heap[b]?
 own:∀ b,b < w.heap.size→Own R' β' B8 b→Own R β bx b
 im:∀ b o,R'.I b o→b < w.heap.size→¬ Own R β bx b→R.I b o
theorem Step.refl (R:ah) (w:World) (β:Nat→Nat) (bx:bK):Step R w β bx R w β bx:=
 ⟨Ext.refl R w,rfl,rfl,rfl,Nat.le_refl _,fun _ _ _=>rfl,fun _ _ h=>h,fun _ _ h _ _=>h⟩
theorem Step.trans {R R1 R2:ah} {w w1 w2:World} {β β1 β2:Nat→Nat} {x x1 x2:bK}
  (h:Step R w β x R1 w1 β1 x1) (k:Step R1 w1 β1 x1 R2 w2 β2 x2):Step R w β x R2 w2 β2 x2 where
 ext:=h.ext.trans k.ext
 os:=k.os.trans h.os
 tape:=k.tape.trans h.tape
 output:=k.output.trans h.output
 size:=Nat.le_trans h.size k.size
 bA:=fun b hb hn=>(k.bA b (Nat.lt_of_lt_of_le hb h.size) (fun ho=>hn (h.own b hb ho))).trans (h.bA b hb hn)
 own:=fun b hb ho=>h.own b hb (k.own b (Nat.lt_of_lt_of_le hb h.size) ho)
 im:=fun b o hi hb hn=>h.im b o (k.im b o hi (Nat.lt_of_lt_of_le hb h.size) (fun ho=>hn (h.own b hb ho))) hb hn
theorem lE.mono {R R':ah} {w w':World} {β:Nat→Nat} (e:Ext R w R' w') {x:SV} {c:Value} (h:lE R w β x c):lE R' w' β x c:=by
 cases x with
 | none=>trivial
 | v a=>exact Rel.mono e h
 | lp k off=>exact h
theorem mZ (n:Nat):Nat.beq n n=true:=Nat.beq_refl n
theorem jL {n m:Nat} (h:n≠m):Nat.beq n m=false:=by
 cases hb:Nat.beq n m with
 | true=>exact absurd (Nat.eq_of_beq_eq_true hb) h
 | false=>rfl
theorem au (l:aL) (d:Nat) (x:SV):lk (.put d x :: l) d=x:=by simp [lk]
theorem aC {l:aL} {d t:Nat} {x:SV} (h:d≠t):lk (.put d x :: l) t=lk l t:=by simp [lk,jL h]
theorem zU {l:aL} {d t:Nat}:(lk (.kill d :: l) t=lk l t∧∀ k off,lk l t=.lp k off→k≠d)∨lk (.kill d :: l) t=.none:=by
 simp only [lk]
 cases h:lk l t with
 | none=>exact .inr rfl
 | v a=>exact .inl ⟨rfl,fun _ _ e=>by cases e⟩
 | lp k off=>
  by_cases hk:k=d
  ·subst hk
   exact .inr (by simp)
  ·exact .inl ⟨by simp [jL hk],fun k' dM e=>by cases e; exact hk⟩
theorem B9 (l:bK) (d:Nat) (cs:List AV):cz ((d,cs) :: l) d=some cs:=by simp [cz]
theorem cV {l:bK} {d k:Nat} {cs cs':List AV} (h:cz ((d,cs) :: l) k=some cs'):(d=k∧cs'=cs)∨(d≠k∧cz l k=some cs'):=by
 by_cases e:d=k
 ·subst e
  rw [B9] at h
  exact .inl ⟨rfl,(Option.some.inj h).symm⟩
 ·simp only [cz,jL e,cond_false] at h
  exact .inr ⟨e,h⟩
theorem Fg {l:bK} (h:l.all (fun p=>aK p.2)=true) {k:Nat} {cs:List AV} (hk:cz l k=some cs):aK cs=true:=by
 induction l with
 | nil=>simp [cz] at hk
 | cons x l ih=>
  obtain ⟨d,c⟩:=x
  simp only [List.all_cons,Bool.and_eq_true] at h
  rcases cV hk with ⟨_,rfl⟩ | ⟨_,hk⟩
  ·exact h.1
  ·exact ih h.2 hk
theorem kp.put {R:ah} {w:World} {β:Nat→Nat} {ae:aL} {a:Act} (h:kp R w β ae a.tmps) {d:Tmp} {x:SV} {c:Value} (hd:d < a.tmps.size) (hx:lE R w β x c) :
  kp R w β (.put d x :: ae) (a.put (some d) c).tmps:=by
 intro i hi
 by_cases e:d=i
 ·subst e
  rw [au]
  exact ⟨c,by simp [Act.put,hd],hx⟩
 ·rw [aC e] at hi ⊢
  obtain ⟨c',h1,h2⟩:=h i hi
  refine ⟨c',?_,h2⟩
  simp only [Act.put]
  rw [Array.getElem?_setIfInBounds_ne e]
  exact h1
theorem aP.put {E:Env} {R:ah} {w:World} {β:Nat→Nat} {s:St} {a:Act} (h:aP E R w β s a) (dst:Option Tmp) {x:SV} {c:Value} (hx:lE R w β x c) :
  aP E R w β (s.put dst x) (a.put dst c):=by
 cases dst with
 | none=>exact h
 | some d=>
  simp only [St.put]
  cases hb:Nat.blt d s.n with
  | true=>
   have hd:d < a.tmps.size:=by rw [h.n]; exact Nat.le_of_ble_eq_true hb
   exact ⟨h.g,h.b,h.t.put hd hx,by simp [Act.put,h.n],h.d⟩
  | false=>
   have hd:¬ d < a.tmps.size:=by
    rw [h.n]
    intro bD
    have:Nat.blt d s.n=true:=Nat.ble_eq_true_of_le bD
    rw [this] at hb
    cases hb
   have he:a.put (some d) c=a:=by
    simp only [Act.put]
    rw [Array.setIfInBounds_eq_of_size_le (Nat.not_lt.1 hd)]
   rw [he]
   exact h
theorem na {R:ah} {w:World} {v:Value} {a:AV} (h:mR v=some a):Rel R w a v∧v.oneCell'=true:=by
 unfold mR at h
 split at h <;> cases h
 ·exact ⟨.bool _,rfl⟩
 ·exact ⟨.int _ _,rfl⟩
 ·rename_i s
  exact ⟨.str s.data.toList,rfl⟩
 ·exact ⟨.gr,rfl⟩
 ·exact ⟨.fa,rfl⟩
 ·exact ⟨.gM,rfl⟩
 ·exact ⟨.bE,rfl⟩
 ·exact ⟨.kj,rfl⟩
theorem jM {R:ah} {w:World}:∀ {vs:List Value} {l:List AV},jh vs=some l→aA R w l vs∧∀ v∈vs,v.oneCell'=true
 | [],l,h=>by simp [jh] at h; subst h; exact ⟨.nil,by simp⟩
 | v :: vs,l,h=>by
  unfold jh at h
  split at h
  ·rename_i a r h1 h2
   cases h
   obtain ⟨k1,k2⟩:=na (R:=R) (w:=w) h1
   obtain ⟨k3,k4⟩:=jM (R:=R) (w:=w) h2
   exact ⟨.cons k1 k3,by simp [k2]; exact k4⟩
  ·cases h
theorem pc {R:ah} {w:World} {v:Value} {a:AV} (h:mS v=some a):Rel R w a v:=by
 unfold mS at h
 split at h
 ·rename_i cs
  split at h
  ·rename_i l hl
   cases h
   obtain ⟨k1,k2⟩:=jM (R:=R) (w:=w) hl
   exact .agg (vs:=cs.toList) k1 k2
  ·cases h
 ·rename_i cs
  split at h
  ·rename_i l hl
   cases h
   obtain ⟨k1,_⟩:=jM (R:=R) (w:=w) hl
   exact .aR (vs:=cs.toList) k1
  ·cases h
 ·exact (na h).1
theorem aE {E:Env} {R:ah} {w:World} {β:Nat→Nat} {s:St} {a:Act} (h:aP E R w β s a) (x:Operand):lE R w β (aY E s.ae x) (a.eval x):=by
 cases x with
 | tmp t=>
  simp only [aY,Act.eval]
  by_cases hn:lk s.ae t=.none
  ·rw [hn]; trivial
  ·obtain ⟨c,h1,h2⟩:=h.t t hn
   have:a.tmps.getD t undef=c:=by simp [Array.getD_eq_getD_getElem?,h1]
   rw [this]
   exact h2
 | const v=>
  simp only [aY,Act.eval]
  cases hc:mS v with
  | none=>trivial
  | some y=>exact pc hc
 | global g=>
  simp only [aY,Act.eval]
  cases hg:E.bY g with
  | none=>trivial
  | some cs=>exact Rel.ep (h.g.bY g cs hg).1
 | func f=>exact Rel.fn .nil .nil
end Go.Am
