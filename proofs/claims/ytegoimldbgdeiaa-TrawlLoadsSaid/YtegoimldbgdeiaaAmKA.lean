/- The abstract machine: its values,its state,and what each operation does (definitions alone). -/
import Derived.CallsIn
import Derived.RangeFuncLeaves
import Derived.Laws.AppendOwn
set_option linter.all false
namespace Go.Am
open Go
inductive LK where
 | nil | full | kq | own (id:Nat) | aU (id j:Nat)
inductive AV where
 | bool (b:Bool)
 | int (k:IntKind) (n:Int)
 | str (s:List UInt8)
 | agg (cs:List AV)
 | bi (vs:List AV)
 | lg
 | ptr (id off:Nat)
 | ep (cs:List AV)
 | list (k:LK) (sz:Nat) (es:List AV)
 | iQ (id off sz len cap:Nat)
 | dL (id f off sz len:Nat)
 | gp (id f i off sz:Nat) (t:TypeId)
 | jq
 | map (id:Nat)
 | dq
 | fn (f:FuncId) (first cap:List AV)
 | yield (id:Nat)
 | oo
 | iface (t:TypeId) (v:AV)
def LK.closed:LK→Bool
 | .own _=>false
 | .aU _ _=>false
 | _=>true
mutual
def AV.closed:AV→Bool
 | .agg cs=>aN cs
 | .bi cs=>aN cs
 | .ep cs=>aN cs
 | .list k _ _=>k.closed
 | .fn _ x y=>aN x&&aN y
 | .iface _ v=>v.closed
 | .ptr _ _=>false
 | .iQ _ _ _ _ _=>false
 | .dL _ _ _ _ _=>false
 | .gp _ _ _ _ _ _=>false
 | .map _=>false
 | .yield _=>false
 | _=>true
def aN:List AV→Bool
 | []=>true
 | a :: l=>a.closed&&aN l
end
mutual
def AV.ga:AV→AV
 | .agg cs=>.agg (kA cs)
 | .bi cs=>.bi (kA cs)
 | .list (.own _) sz es=>.list .kq sz es
 | .list (.aU _ _) sz es=>.list .kq sz es
 | v=>v
def kA:List AV→List AV
 | []=>[]
 | a :: l=>a.ga :: kA l
end
inductive SV where
 | none
 | v (a:AV)
 | lp (key off:Nat)
inductive Vd where
 | put (d:Nat) (x:SV)
 | kill (d:Nat)
abbrev aT:=List Vd
abbrev cm:=List (Nat × List AV)
def lk:aT→Nat→SV
 | [],_=>.none
 | .put d x :: l,t=>bif Nat.beq d t then x else lk l t
 | .kill d :: l,t=>match lk l t with
  | .lp k off=>bif Nat.beq k d then .none else .lp k off
  | x=>x
def de:cm→Nat→Option (List AV)
 | [],_=>none
 | (d,cs) :: l,k=>bif Nat.beq d k then some cs else de l k
inductive GO where
 | dead
 | row (cs:List AV) (el:TypeId)
 | tok (f sz:Nat) (e:TypeId)
 | aU (fs:List Nat) (sz:Nat) (e:TypeId)
 | gN (oP n:Nat) (left:List Nat) (cur:Option Nat) (t:TypeId)
 | du (es:List AV) (sz:Nat) (el:TypeId)
 | map (es:List (AV × AV))
 | fU (s:List UInt8) (pos:Nat)
 | loop (busy:Bool) (pending:Option Code) (fn:FuncId) (ae:aT) (n:Nat) (params:List Tmp) (assign body:Code) (defers:Nat) (done:Bool)
 | defers (open_:Bool)
structure St where
 ae:aT
 boxes:cm
 G:List GO
 marks:List Nat
 ro:Option Nat
 n:Nat
def nth {α:Type}:List α→Nat→Option α
 | [],_=>none
 | a :: _,0=>some a
 | _ :: l,n+1=>nth l n
def ax {α:Type}:List α→Nat→α→List α
 | [],_,_=>[]
 | _ :: l,0,x=>x :: l
 | a :: l,n+1,x=>a :: ax l n x
def takeN {α:Type}:Nat→List α→Option (List α)
 | 0,_=>some []
 | _+1,[]=>none
 | n+1,a :: l=>match takeN n l with
  | some r=>some (a :: r)
  | none=>none
def fg {α:Type}:Nat→List α→List α
 | 0,l=>l
 | _+1,[]=>[]
 | n+1,_ :: l=>fg n l
def Ct {α:Type} (off n:Nat) (l:List α):Option (List α):=takeN n (fg off l)
def bI {α:Type}:List α→Nat→List α→List α
 | l,_,[]=>l
 | [],_,_ :: _=>[]
 | _ :: l,0,y :: ys=>y :: bI l 0 ys
 | a :: l,n+1,y :: ys=>a :: bI l n (y :: ys)
def AV.cells:AV→List AV
 | .agg cs=>cs
 | v=>[v]
def AV.one:AV→Bool
 | .agg _=>false
 | .bi _=>false
 | _=>true
def pC:Value→Option AV
 | .bool b=>some (.bool b)
 | .int k n=>some (.int k n)
 | .string s=>some (.str s.data.toList)
 | .slice none 0 0=>some (.list .nil 0 [])
 | .pointer none=>some .lg
 | .map none=>some .jq
 | .nilFunc=>some .dq
 | .nilIface=>some .oo
 | _=>none
def lh:List Value→Option (List AV)
 | []=>some []
 | v :: vs=>match pC v,lh vs with
  | some a,some l=>some (a :: l)
  | _,_=>none
def pD:Value→Option AV
 | .agg cs=>match lh cs.toList with
  | some l=>some (.agg l)
  | none=>none
 | .tuple cs=>match lh cs.toList with
  | some l=>some (.bi l)
  | none=>none
 | v=>pC v
inductive TK where
 | sc
 | int (k:IntKind)
 | str
 | st (fs:List (Nat × Nat × Bool))
 | arr (len esz:Nat) (Rh:Bool)
 | sl (elem esz:Nat) (Rh:Bool) (a7:Nat) (Oo:Option AV)
 | map (key elem:TypeId) (Oo:Option AV)
mutual
inductive EK where
 | no
 | bool
 | int
 | str
 | st (fs:KF)
inductive KF where
 | nil
 | cons (off sz:Nat) (ag:Bool) (k:EK) (rest:KF)
end
structure TI where
 k:TK
 size:Nat
 agg:Bool
 zero:Option AV
 ek:EK
def iT:TypeDesc→Bool
 | .struct _=>true
 | .array _ _=>true
 | _=>false
def fieldsOf (P:Program):List Field→Option (List (Nat × Nat × Bool))
 | []=>some []
 | f :: fs=>match P.info? f.type,P.underlying f.type,fieldsOf P fs with
  | some i,some u,some l=>some ((f.offset,i.size,iT u) :: l)
  | _,_,_=>none
def fN (i:TypeInfo):Option AV:=match i.zero with
 | some z=>pD z
 | none=>none
def oq (P:Program):TypeDesc→Option TK
 | .int k=>some (.int k)
 | .string=>some .str
 | .struct fs=>match fieldsOf P fs.toList with
  | some l=>some (.st l)
  | none=>none
 | .array n e=>match P.info? e,P.underlying e with
  | some i,some u=>some (.arr n i.size (iT u))
  | _,_=>none
 | .slice e=>match P.info? e,P.underlying e with
  | some i,some u=>some (.sl e i.size (iT u) i.bytes (fN i))
  | _,_=>none
 | .map k e=>match P.info? e with
  | some i=>some (.map k e (fN i))
  | none=>none
 | _=>some .sc
def AK (P:Program) (ek:TypeId→EK):List Field→Option KF
 | []=>some .nil
 | f :: fs => if f.name == "_" then none else match P.info? f.type, P.underlying f.type, AK P ek fs with
  | some i,some u,some l=>some (.cons f.offset i.size (iT u) (ek f.type) l)
  | _,_,_=>none
def tc (sz:Nat) (ag:Bool) (k:EK):Nat→Nat→KF
 | 0,_=>.nil
 | n+1,i=>.cons (i * sz) sz ag k (tc sz ag k n (i+1))
def ot (P:Program):Nat→TypeId→EK
 | 0,_=>.no
 | n+1,t=>match P.underlying t with
  | some .bool=>.bool
  | some (.int _)=>.int
  | some .string=>.str
  | some (.struct fs)=>if P.stoodInHeld t then .no else match AK P (ot P n) fs.toList with
   | some l=>.st l
   | none=>.no
  | some (.array m e)=>match P.info? e,P.underlying e with
   | some i,some u=>.st (tc i.size (iT u) (ot P n e) m 0)
   | _,_=>.no
  | _=>.no
def rI (P:Program) (t:TypeId):EK:=match ot P 6 t with
 | .st l=>if P.eqGuardType P.depth t then .no else .st l
 | k=>k
def Du (P:Program) (t:TypeId):Option TI:=
 match P.info? t,P.underlying t with
 | some i,some u=>match oq P u with
  | some k=>some { k:=k,size:=i.size,agg:=iT u,zero:=fN i,ek:=rI P t }
  | none=>none
 | _,_=>none
def vZ:AV→AV→Bool
 | .bool a,.bool b=>a == b
 | .int k a,.int k' b=>(k == k')&&a == b
 | .str a,.str b=>a == b
 | .lg,.lg=>true
 | .ptr i o,.ptr i' o'=>Nat.beq i i'&&Nat.beq o o'
 | .jq,.jq=>true
 | .map i,.map i'=>Nat.beq i i'
 | .dq,.dq=>true
 | .oo,.oo=>true
 | .iQ a b c d e,.iQ a' b' c' d' e'=>Nat.beq a a'&&Nat.beq b b'&&Nat.beq c c'&&Nat.beq d d'&&Nat.beq e e'
 | .dL a b c d e,.dL a' b' c' d' e'=>Nat.beq a a'&&Nat.beq c c'&&Nat.beq d d'&&(Nat.beq b b'&&Nat.beq e e')
 | .gp a b c d e t,.gp a' b' c' d' e' t'=>Nat.beq a a'&&Nat.beq b b'&&Nat.beq c c'&&Nat.beq d d'&&Nat.beq e e'&&Nat.beq t t'
 | _,_=>false
mutual
def dx:AV→AV→Bool
 | .fn f x y,.fn f' x' y'=>Nat.beq f f'&&dY x x'&&dY y y'
 | .agg cs,.agg eM=>dY cs eM
 | .ep cs,.ep eM=>dY cs eM
 | .bi cs,.bi eM=>dY cs eM
 | .list .nil a es,.list .nil a' es'=>Nat.beq a a'&&dY es es'
 | .list .full a es,.list .full a' es'=>Nat.beq a a'&&dY es es'
 | .list .kq a es,.list .kq a' es'=>Nat.beq a a'&&dY es es'
 | .list (.own i) a es,.list (.own i') a' es'=>Nat.beq i i'&&Nat.beq a a'&&dY es es'
 | .list (.aU i j) a es,.list (.aU i' j') a' es'=>Nat.beq i i'&&Nat.beq j j'&&Nat.beq a a'&&dY es es'
 | a,b=>vZ a b
def dY:List AV→List AV→Bool
 | [],[]=>true
 | a :: l,b :: r=>dx a b&&dY l r
 | _,_=>false
end
mutual
inductive ah
 | int (k:IntKind)
 | bool
 | str
 | agg (ps:aD)
 | bi (ps:aD)
 | list (sz:Nat) (p:ah)
 | own (id sz:Nat) (p:ah)
 | aU (id sz:Nat) (p:ah)
 | pz (v:AV)
 | two (u v:AV)
inductive aD
 | nil
 | cons (p:ah) (ps:aD)
end
def Oq (s:Bool) (α β:Type):Type:=match s with
 | true=>α
 | false=>α × β
def aD.isNil:aD→Bool
 | .nil=>true
 | .cons _ _=>false
mutual
def ah.T:ah→Type
 | .int _=>Int
 | .bool=>Bool
 | .str=>List UInt8
 | .agg ps=>ps.T
 | .bi ps=>ps.T
 | .list _ p=>List p.T
 | .own _ _ p=>List p.T
 | .aU _ _ p=>Nat × List p.T
 | .pz _=>Unit
 | .two _ _=>Bool
def aD.T:aD→Type
 | .nil=>Unit
 | .cons p ps=>Oq ps.isNil p.T ps.T
end
mutual
def ah.enc:(p:ah)→p.T→AV
 | .int k,(n:Int)=>.int k n
 | .bool,(b:Bool)=>.bool b
 | .str,(s:List UInt8)=>.str s
 | .agg ps,x=>.agg (ps.enc x)
 | .bi ps,x=>.bi (ps.enc x)
 | .list sz p,(xs:List p.T)=>.list .kq sz (xs.map p.enc)
 | .own id sz p,(xs:List p.T)=>.list (.own id) sz (xs.map p.enc)
 | .aU id sz p,(x:Nat × List p.T)=>.list (.aU id x.1) sz (x.2.map p.enc)
 | .pz v,_=>v
 | .two u v,(b:Bool)=>bif b then v else u
def aD.enc:(ps:aD)→ps.T→List AV
 | .nil,_=>[]
 | .cons p .nil,x=>[p.enc x]
 | .cons p (.cons q ps),x=>p.enc x.1 :: (aD.cons q ps).enc x.2
end
def NM:IntKind→IntKind→Bool:=fun a b=>decide (a=b)
def AV.iT:AV→List AV
 | .agg cs=>cs
 | _=>[]
def AV.KG:AV→List AV
 | .bi cs=>cs
 | _=>[]
def AV.dB:AV→List AV
 | .list _ _ es=>es
 | _=>[]
def AV.Ri:AV→Nat
 | .list (.aU _ j) _ _=>j
 | _=>0
def AV.oQ:AV→Int
 | .int _ n=>n
 | _=>0
def AV.Ot:AV→Bool
 | .bool b=>b
 | _=>false
def AV.KH:AV→List UInt8
 | .str s=>s
 | _=>[]
def dN:List AV→AV
 | a :: _=>a
 | []=>.lg
def ER:List AV→List AV
 | _ :: l=>l
 | []=>[]
mutual
def ah.a8:(p:ah)→AV→p.T
 | .int _,v=>v.oQ
 | .bool,v=>v.Ot
 | .str,v=>v.KH
 | .agg ps,v=>ps.a8 v.iT
 | .bi ps,v=>ps.a8 v.KG
 | .list _ p,v=>v.dB.map p.a8
 | .own _ _ p,v=>v.dB.map p.a8
 | .aU _ _ p,v=>(v.Ri,v.dB.map p.a8)
 | .pz _,_=>()
 | .two _ v,a=>dx a v
def aD.a8:(ps:aD)→List AV→ps.T
 | .nil,_=>()
 | .cons p .nil,l=>p.a8 (dN l)
 | .cons p (.cons q ps),l=>(p.a8 (dN l),(aD.cons q ps).a8 (ER l))
end
def allFit (f:AV→Bool):List AV→Bool
 | []=>true
 | a :: l=>f a&&allFit f l
mutual
def ah.fits:ah→AV→Bool
 | .int k,v=>match v with
  | .int k' _=>NM k k'
  | _=>false
 | .bool,v=>match v with
  | .bool _=>true
  | _=>false
 | .str,v=>match v with
  | .str _=>true
  | _=>false
 | .agg ps,v=>match v with
  | .agg cs=>ps.fits cs
  | _=>false
 | .bi ps,v=>match v with
  | .bi cs=>ps.fits cs
  | _=>false
 | .list sz p,v=>match v with
  | .list _ bk es=>(Nat.beq sz bk || es.isEmpty)&&allFit p.fits es
  | _=>false
 | .own id sz p,v=>match v with
  | .list (.own iR) bk es=>(Nat.beq id iR&&Nat.beq sz bk)&&allFit p.fits es
  | _=>false
 | .aU id sz p,v=>match v with
  | .list (.aU iR _) bk es=>(Nat.beq id iR&&Nat.beq sz bk)&&allFit p.fits es
  | _=>false
 | .pz v,u=>dx u v
 | .two u v,a=>dx a u || dx a v
def aD.fits:aD→List AV→Bool
 | .nil,l=>l.isEmpty
 | .cons p ps,l=>match l with
  | a :: l=>p.fits a&&ps.fits l
  | []=>false
end
def ah.dec (p:ah) (v:AV):Option p.T:=bif p.fits v then some (p.a8 v) else none
def aD.dec (ps:aD) (l:List AV):Option ps.T:=bif ps.fits l then some (ps.a8 l) else none
structure Env where
 P:Program
 ti:TypeId→Option TI
 dC:Nat→Option (List AV)
 vA:FuncId→Tmp→Bool
 Hz:TypeId→Option ah
 lo:Nat:=0
 TJ:FuncId→Tmp→List (Option Nat × Nat × TypeId):=fun _ _=>[]
 QC:TypeId→Option ah:=fun _=>none
 gx:Nat→Bool:=fun _=>false
 Dv:∀ t i,ti t=some i→Du P t=some i
 mixed:P.follows .mixedOrders=true
 xn:∀ g cs,dC g=some cs→aN cs=true
def bc (E:Env) (ae:aT):Operand→SV
 | .tmp t=>lk ae t
 | .const v=>match pD v with
  | some a=>.v a
  | none=>.none
 | .global g=>match E.dC g with
  | some cs=>.v (.ep cs)
  | none=>.none
 | .func f=>.v (.fn f [] [])
def St.put (s:St) (dst:Option Tmp) (x:SV):St:=match dst with
 | some d=>match Nat.blt d s.n with
  | true=>⟨.put d x :: s.ae,s.boxes,s.G,s.marks,s.ro,s.n⟩
  | false=>s
 | none=>s
def fA:AV:=.bi []
def qM (agg:Bool) (cs:List AV):Option AV:=
 if agg then some (.agg cs) else match cs with
  | [c]=>some c
  | _=>none
def lK (s:St):SV→Option (List AV × Nat)
 | .lp k off=>match de s.boxes k with
  | some cs=>some (cs,off)
  | none=>none
 | .v (.ptr id off)=>match nth s.G id with
  | some (.row cs _)=>some (cs,off)
  | _=>none
 | .v (.ep cs)=>some (cs,0)
 | _=>none
def v7 (n:Nat):SV→Option SV
 | .lp k off=>some (.lp k (off+n))
 | .v (.ptr id off)=>some (.v (.ptr id (off+n)))
 | .v (.ep cs)=>some (.v (.ep (fg n cs)))
 | .v (.gp id f i off sz t)=>some (.v (.gp id f i (off+n) sz t))
 | _=>none
def xo (t:Bool):AV→AV→AV
 | .bool x,.bool y=>.bool (bif t then x else y)
 | .int k x,.int k' y=>if k=k' then .int k (bif t then x else y) else (bif t then .int k x else .int k' y)
 | a,b=>bif t then a else b
def Cu (ag:Bool) (off sz:Nat) (cs:List AV):Option AV:=
 if ag then (match Ct off sz cs with | some l=>qM true l | none=>none) else (match Ct off 1 cs with | some l=>qM false l | none=>none)
mutual
def ku:EK→AV→AV→Option Bool
 | .bool,.bool a,.bool b=>some (a == b)
 | .int,.int k a,.int k' b=>if k=k' then some (a == b) else none
 | .str,.str a,.str b=>some (a == b)
 | .st fs,.agg xs,.agg ys=>qN fs xs ys
 | _,_,_=>none
def qN:KF→List AV→List AV→Option Bool
 | .nil,_,_=>some true
 | .cons off sz ag k rest,xs,ys=>match Cu ag off sz xs,Cu ag off sz ys with
  | some a,some b=>match ku k a b,qN rest xs ys with
   | some t,some u=>some (t&&u)
   | _,_=>none
  | _,_=>none
end
def KI (k:IntKind) (a b:Int):Int:=k.wrap (BitVec.ofInt k.bits a &&& BitVec.ofInt k.bits b).toNat
def Rj (k:IntKind) (a b:Int):Int:=k.wrap (BitVec.ofInt k.bits a ||| BitVec.ofInt k.bits b).toNat
def KJ (k:IntKind) (a b:Int):Int:=k.wrap (BitVec.ofInt k.bits a ^^^ BitVec.ofInt k.bits b).toNat
def yV (op:BinOp) (x y:AV):Option (Bool × AV):=
 match x,y with
 | .int k a,.int k' b=>
  match op with
  | .shl=>some (decide (0≤b),.int k (k.wrap (a * 2 ^ (min b.toNat k.bits))))
  | .shr=>some (decide (0≤b),.int k (a.fdiv (2 ^ (min b.toNat k.bits))))
  | _=>if k=k' then
    match op with
    | .add=>some (true,.int k (k.wrap (a+b)))
    | .sub=>some (true,.int k (k.wrap (a - b)))
    | .mul=>some (true,.int k (k.wrap (a * b)))
    | .quo=>some (!(decide (b=0)),.int k (k.wrap (a.tdiv b)))
    | .rem=>some (!(decide (b=0)),.int k (a.tmod b))
    | .and=>some (true,.int k (KI k a b))
    | .or=>some (true,.int k (Rj k a b))
    | .xor=>some (true,.int k (KJ k a b))
    | .eql=>some (true,.bool (a == b))
    | .neq=>some (true,.bool (a != b))
    | .lss=>some (true,.bool (a < b))
    | .leq=>some (true,.bool (a≤b))
    | .gtr=>some (true,.bool (a > b))
    | .geq=>some (true,.bool (a≥b))
    | _=>none
   else none
 | .str a,.str b=>
  match op with
  | .add=>some (decide (a.length+b.length≤9223372036854775807),.str (a++b))
  | .eql=>some (true,.bool (a == b))
  | .neq=>some (true,.bool (!(a == b)))
  | .lss=>some (true,.bool (Op.bytesLess a b))
  | .leq=>some (true,.bool (Op.bytesLess a b || a == b))
  | .gtr=>some (true,.bool (!(Op.bytesLess a b || a == b)))
  | .geq=>some (true,.bool (!(Op.bytesLess a b)))
  | _=>none
 | _,_=>none
end Go.Am
namespace Go.Am
open Go
def St.kill (s:St) (d:Nat):St:=⟨.kill d :: s.ae,s.boxes,s.G,s.marks,s.ro,s.n⟩
def AV.aL:AV→Bool
 | .bi _=>false
 | _=>true
def St.dy (s:St) (o:GO):St:=⟨s.ae,s.boxes,s.G++[o],s.marks,s.ro,s.n⟩
def St.bF (s:St) (G:List GO):St:=⟨s.ae,s.boxes,G,s.marks,s.ro,s.n⟩
def St.sr (s:St) (d:Nat) (cs:List AV):St:=⟨s.ae,(d,cs) :: s.boxes,s.G,s.marks,s.ro,s.n⟩
def eN (E:Env) (f:FuncId) (s:St) (dst:Option Tmp) (el:TypeId) (cs:List AV):Option (Bool × St):=
 match dst with
 | none=>none
 | some d=>
  if E.vA f d then some (true,(s.dy (.row cs el)).put (some d) (.v (.ptr s.G.length 0)))
  else match Nat.blt d s.n with
   | true=>some (true,((s.kill d).sr d cs).put (some d) (.lp d 0))
   | false=>none
def kP (E:Env) (ae:aT):List Operand→Option (List AV)
 | []=>some []
 | x :: l=>match bc E ae x,kP E ae l with
  | .v a,some r=>some (a :: r)
  | _,_=>none
def Hg (E:Env) (ae:aT):List (Nat × Operand)→Option (List (Nat × AV))
 | []=>some []
 | (i,x) :: l=>match bc E ae x,Hg E ae l with
  | .v a,some r=>some ((i,a) :: r)
  | _,_=>none
def placeOf:TK→Nat→Option (Nat × Nat)
 | .st fs,j=>match nth fs j with
  | some (o,sz,_)=>some (o,sz)
  | none=>none
 | .arr _ esz _,j=>some (j * esz,esz)
 | _,_=>none
def rJ (place:Nat→Option (Nat × Nat)) (cells:List AV):List (Nat × AV)→Option (List AV)
 | []=>some cells
 | (i,v) :: rest=>match place i with
  | none=>none
  | some (off,sz)=>
   if v.aL&&Nat.beq v.cells.length sz&&Nat.ble (off+sz) cells.length then rJ place (bI cells off v.cells) rest else none
def yW (esz:Nat) (es:List AV):List (Nat × AV)→Option (List AV)
 | []=>some es
 | (i,v) :: rest=>
  if v.aL&&Nat.beq v.cells.length esz&&Nat.ble (i+1) es.length&&v.closed then yW esz (ax es i v) rest else none
def lL (E:Env) (s:St) (t:TypeId) (parts:List (Nat × Operand)):Option AV:=
 match E.ti t,Hg E s.ae parts with
 | some i,some ps=>match i.zero with
  | some z=>match rJ (placeOf i.k) z.cells ps with
   | some cs=>if i.agg&&z.aL then some (.agg cs) else none
   | none=>none
  | none=>none
 | _,_=>none
def we:List (Nat × AV)→List (Nat × AV)
 | []=>[]
 | (i,v) :: l=>(i,v.ga) :: we l
def bH (E:Env) (s:St) (t:TypeId) (len:Nat) (parts:List (Nat × Operand)):Option AV:=
 match E.ti t,Hg E s.ae parts with
 | some i,some ps=>match i.k with
  | .sl _ esz _ _ (some z)=>
    if Nat.beq z.cells.length esz&&Nat.ble 1 esz&&Nat.ble (len * esz) 16777216&&z.aL&&z.closed then
     match yW esz (List.replicate len z) (we ps) with
     | some es=>some (.list .full esz es)
     | none=>none
    else none
  | _=>none
 | _,_=>none
def pE (E:Env) (s:St) (t:TypeId) (p:SV):Option AV:=
 match E.ti t,lK s p with
 | some i,some (cs,off)=>match Ct off i.size cs with
  | some l=>qM i.agg l
  | none=>none
 | _,_=>none
def iU (E:Env) (s:St) (t:TypeId) (p x:SV):Option St:=
 match E.ti t,x with
 | some i,.v v=>
  if v.aL&&Nat.beq v.cells.length i.size then
   match p with
   | .lp k off=>match de s.boxes k with
    | some cs=>if Nat.ble (off+v.cells.length) cs.length then some (s.sr k (bI cs off v.cells)) else none
    | none=>none
   | .v (.ptr id off)=>match nth s.G id with
    | some (.row cs el)=>if Nat.ble (off+v.cells.length) cs.length then some (s.bF (ax s.G id (.row (bI cs off v.cells) el))) else none
    | _=>none
   | _=>none
  else none
 | _,_=>none
def an (es:List AV) (n:Nat):AV:=match nth es n with
 | some e=>e
 | none=>fA
def iz:List GO→Nat→TypeId→Nat→Option Nat
 | [],_,_,_=>none
 | .aU _ sz e :: G,bk,e',i=>match iz G bk e' (i+1) with
  | some j=>some j
  | none=>bif Nat.beq sz bk&&Nat.beq e e' then some i else none
 | _ :: G,bk,e',i=>iz G bk e' (i+1)
def ah.fin (G:List GO):ah→ah
 | .aU e sz p=>match iz G sz e 0 with
  | some id=>.aU id sz p
  | none=>.aU e sz p
 | .agg ps=>.agg (Ou ps)
 | p=>p
where
 Ou:aD→aD
  | .nil=>.nil
  | .cons p ps=>.cons (match p with
   | .aU e sz q=>match iz G sz e 0 with
    | some id=>.aU id sz q
    | none=>.aU e sz q
   | p=>p) (Ou ps)
def Jy (E:Env) (G:List GO) (t:TypeId):Option ah:=match E.QC t with
 | some p=>some (p.fin G)
 | none=>E.Hz t
def td (E:Env) (s:St) (id f i sz:Nat) (t:TypeId):Option (Bool × AV):=match nth s.G id with
 | some (.du es bk _)=>match Jy E s.G t with
  | some p=>if Nat.beq sz bk then some (decide (f=es.length)&&decide (i < es.length)&&p.fits (an es i),p.enc (p.a8 (an es i))) else none
  | none=>if Nat.beq sz bk then some (decide (f=es.length)&&decide (i < es.length),an es i) else none
 | _=>none
def wg (E:Env) (s:St) (t:TypeId) (p:SV):Option (Bool × AV):=match p with
 | .v (.gp id f i off sz ty)=>match E.ti t,td E s id f i sz ty with
  | some ti,some (c,v)=>match Ct off ti.size v.cells with
   | some l=>match qM ti.agg l with
    | some r=>some (c,r)
    | none=>none
   | none=>none
  | _,_=>none
 | p=>match pE E s t p with
  | some v=>some (true,v)
  | none=>none
def iV (E:Env) (s:St) (t:TypeId) (p x:SV):Option (Bool × St):=match p with
 | .v (.gp id f i off sz ty)=>match E.ti t,x,nth s.G id with
  | some ti,.v x,some (.du es bk el)=>
   if x.aL&&Nat.beq x.cells.length ti.size&&Nat.beq sz bk then
    if Nat.beq off 0&&Nat.beq ti.size sz then some (decide (f=es.length)&&decide (i < es.length),s.bF (ax s.G id (.du (ax es i x) bk el)))
    else match td E s id f i sz ty with
     | some (c,.agg cs)=>if Nat.ble (off+ti.size) cs.length&&Nat.beq cs.length sz then some (c,s.bF (ax s.G id (.du (ax es i (.agg (bI cs off x.cells))) bk el))) else none
     | _=>none
   else none
  | _,_,_=>none
 | p=>match iU E s t p x with
  | some s'=>some (true,s')
  | none=>none
def jL (E:Env) (t:TypeId) (x ix:SV):Option (Bool × SV):=
 match E.ti t,ix with
 | some i,.v (.int _ n)=>match i.k,x with
  | .sl _ esz _ _ _,.v (.list _ sz es)=>if Nat.beq sz esz || es.isEmpty then
    match E.Hz t with
    | some p=>some (decide (0≤n∧n < es.length)&&p.fits (an es n.toNat),.v (.ep (p.enc (p.a8 (an es n.toNat))).cells))
    | none=>some (decide (0≤n∧n < es.length),.v (.ep (an es n.toNat).cells))
   else none
  | .sl _ esz _ _ _,.v (.iQ id off sz len _)=>if Nat.beq sz esz then some (decide (0≤n∧n < len),.v (.ptr id (off+n.toNat * sz))) else none
  | .sl _ esz _ _ _,.v (.dL id f off sz len)=>if Nat.beq sz esz then some (decide (0≤n∧n < len),.v (.gp id f (off+n.toNat) 0 sz t)) else none
  | .arr len esz _,.v (.ep cs)=>match E.Hz t with
   | some p=>if Nat.beq esz 1&&Nat.ble len cs.length then some (decide (0≤n∧n < len)&&p.fits (an cs n.toNat),.v (.ep [p.enc (p.a8 (an cs n.toNat))])) else none
   | none=>some (decide (0≤n∧n < len),.v (.ep (fg (n.toNat * esz) cs)))
  | .arr len esz _,p=>match v7 (n.toNat * esz) p with
   | some q=>some (decide (0≤n∧n < len),q)
   | none=>none
  | _,_=>none
 | _,_=>none
def jM (E:Env) (t:TypeId) (x:SV) (j:Nat):Option SV:=
 match E.ti t with
 | some i=>match i.k with
  | .st fs=>match nth fs j with
   | some (o,sz,_)=>if Nat.ble 1 sz then v7 o x else none
   | none=>none
  | _=>none
 | none=>none
def AL (E:Env) (t:TypeId) (x:SV) (j:Nat):Option AV:=
 match E.ti t,x with
 | some i,.v (.agg cs)=>match i.k with
  | .st fs=>match nth fs j with
   | some (o,sz,ag)=>if ag then (match Ct o sz cs with | some l=>qM true l | none=>none) else (match Ct o 1 cs with | some l=>qM false l | none=>none)
   | none=>none
  | _=>none
 | _,_=>none
def AM (E:Env) (t:TypeId) (x ix:SV):Option (Bool × AV):=
 match E.ti t,x,ix with
 | some i,.v (.str l),.v (.int _ n)=>match i.k with
  | .str=>some (decide (0≤n∧n < l.length),.int .u8 (l.getD n.toNat 0).toNat)
  | _=>none
 | some i,.v (.agg cs),.v (.int _ n)=>match i.k with
  | .arr len esz ag=>match (if ag then (match Ct (n.toNat * esz) esz cs with | some l=>qM true l | none=>none) else (match Ct (n.toNat * esz) 1 cs with | some l=>qM false l | none=>none)) with
   | some v=>some (decide (0≤n∧n < len),v)
   | none=>none
  | _=>none
 | _,_,_=>none
def xp (y:Nat):SV→Option (Bool × Nat)
 | .v (.int _ n)=>some (decide (0≤n∧n≤y),n.toNat)
 | _=>none
def oR {α:Type} (lo hi:Nat) (l:List α):List α:=(l.take hi).drop lo
def lM (E:Env) (ae:aT):Option Operand→Option (Option SV)
 | none=>some none
 | some x=>some (some (bc E ae x))
def AN (len:Nat) (lo hi:Option SV):Option (Bool × Nat × Nat):=
 match (match hi with | none=>some (true,len) | some h=>xp len h) with
 | none=>none
 | some (c1,h)=>match (match lo with | none=>some (true,0) | some l=>xp h l) with
  | none=>none
  | some (c2,l)=>some (c1&&c2,l,h)
def Ov (agg:Bool) (l:List AV):AV:=match agg with
 | true=>.agg l
 | false=>dN l
def gy (agg:Bool) (sz:Nat):Nat→List AV→List AV
 | 0,_=>[]
 | n+1,cs=>Ov agg (cs.take sz) :: gy agg sz n (cs.drop sz)
def AO (ag:Bool) (e:AV):Bool:=e.aL&&(ag || e.one)&&e.closed
def xq (E:Env) (t:TypeId) (x:SV) (lo hi:Option SV) (mx:Option Operand):Option (Bool × AV):=
 match E.ti t,mx with
 | some i,none=>match i.k,x with
  | .str,.v (.str l)=>match AN l.length lo hi with
   | some (c,a,b)=>some (c,.str (oR a b l))
   | none=>none
  | .sl _ esz _ _ _,.v (.list k sz es)=>
   if Nat.beq sz esz || es.isEmpty then
    match AN es.length lo hi with
    | some (c,a,b)=>some (c,.list (match k with | .nil=>.nil | .full=>(match hi with | none=>.full | some _=>.kq) | _=>.kq) esz (oR a b es))
    | none=>none
   else none
  | .sl _ esz _ _ _,.v (.iQ id off sz len cap)=>
   if Nat.beq sz esz then
    match AN len lo hi with
    | some (c,a,b)=>some (c,.iQ id (bif Nat.beq cap a then off else off+a * sz) sz (b - a) (cap - a))
    | none=>none
   else none
  | .sl _ esz _ _ _,.v (.dL id f off sz len)=>
   if Nat.beq sz esz then
    match AN len lo hi with
    | some (c,a,b)=>some (c,.dL id f (off+a) sz (b - a))
    | none=>none
   else none
  | .arr len esz ag,.v (.ep cs)=>match lo,hi with
   | none,none=>if Nat.ble (len * esz) cs.length&&Nat.ble 1 esz&&(ag || Nat.beq esz 1)&&allFit (AO ag) (gy ag esz len cs) then some (true,.list .full esz (gy ag esz len cs)) else none
   | _,_=>none
  | _,_=>none
 | _,_=>none
def ES (G:List GO) (id n:Nat) (f sz:Nat) (e:TypeId):List GO:=ax G id (.tok (f+n) sz e)
def Dw (fs:List Nat) (j n:Nat):List Nat:=bif Nat.beq j fs.length then fs++[n] else ax fs j n
def HA (fs:List Nat) (j n:Nat):Bool:=decide (nth fs j=some n) || (Nat.beq j fs.length&&Nat.beq n 0)
def eO (G:List GO) (elem esz a7:Nat) (x:AV) (ys:List AV):Option (Bool × AV × List GO):=
 match x,ys with
 | .list k sz es,[]=>match k with
  | .nil=>some (true,.list .nil sz es,G)
  | k=>some (true,.list k sz es,G)
 | .list k sz es,y :: ys=>
  match k with
  | .nil=>some (decide ((es.length+(y :: ys).length) * a7≤140737488355328),.list (.own G.length) esz (es++(y :: ys)),G++[.tok (es.length+(y :: ys).length) esz elem])
  | .full=>if Nat.beq sz esz then some (decide ((es.length+(y :: ys).length) * a7≤140737488355328),.list (.own G.length) esz (es++(y :: ys)),G++[.tok (es.length+(y :: ys).length) esz elem]) else none
  | .own id=>match nth G id with
   | some (.tok f bk e')=>if Nat.beq bk esz&&Nat.beq e' elem&&Nat.beq sz esz then
     some (decide (f=es.length)&&decide ((es.length+(y :: ys).length) * a7≤140737488355328),.list (.own id) esz (es++(y :: ys)),ES G id (y :: ys).length f esz elem) else none
   | _=>none
  | .aU id j=>match nth G id with
   | some (.aU fs bk e')=>if Nat.beq bk esz&&Nat.beq e' elem&&Nat.beq sz esz then
     some (HA fs j es.length&&decide ((es.length+(y :: ys).length) * a7≤140737488355328),.list (.aU id j) esz (es++(y :: ys)),ax G id (.aU (Dw fs j (es.length+(y :: ys).length)) esz elem)) else none
   | _=>none
  | .kq=>none
 | .dL id f off sz len,[]=>some (true,.dL id f off sz len,G)
 | .dL id f off sz len,y :: ys=>match nth G id with
  | some (.du es bk e')=>if Nat.beq bk esz&&Nat.beq e' elem&&Nat.beq sz esz then
    some (decide (f=es.length)&&decide (off=0)&&decide (len=f)&&decide ((es.length+(y :: ys).length) * a7≤140737488355328),.dL id (es.length+(y :: ys).length) 0 esz (es.length+(y :: ys).length),ax G id (.du (es++(y :: ys)) esz elem)) else none
  | _=>none
 | _,_=>none
def pF (b:UInt8):AV:=.int .u8 b.toNat
def oS (es:List AV):List UInt8:=es.map fun a=>UInt8.ofNat a.oQ.toNat
def te (es:List AV):List UInt8:=es.flatMap fun a=>(Utf8.encode a.oQ).data.toList
def Dx:AV→List AV→Option AV
 | x,[]=>some x
 | .int k x,.int k' y :: l=>if k=k' then Dx (.int k (if y > x then y else x)) l else none
 | _,_=>none
def AP:AV→List AV→Option AV
 | x,[]=>some x
 | .int k x,.int k' y :: l=>if k=k' then AP (.int k (if y < x then y else x)) l else none
 | .str x,.str y :: l=>AP (.str (bif Op.bytesLess x y || x == y then x else y)) l
 | _,_=>none
def ar:List AV→List AV
 | []=>[]
 | e :: es=>e.cells++ar es
def pG (s:St) (esz:Nat) (d x:AV):Option (Nat × List GO):=
 match d with
 | .iQ id off sz len _=>match nth s.G id with
  | some (.row cs el)=>
   if Nat.beq sz esz then
    match x with
    | .list _ bk es=>if Nat.beq bk esz || es.isEmpty then
      let n:=Nat.min es.length len
      let l:=ar (es.take n)
      if Nat.ble (off+l.length) cs.length then some (n,ax s.G id (.row (bI cs off l) el)) else none
     else none
    | .str bs=>
      if Nat.beq esz 1&&Nat.ble (off+(bs.take (Nat.min bs.length len)).length) cs.length then some (Nat.min bs.length len,ax s.G id (.row (bI cs off ((bs.take (Nat.min bs.length len)).map pF)) el)) else none
    | .iQ iR fB bk AQ _=>match nth s.G iR with
     | some (.row eM _)=>
      let n:=Nat.min AQ len
      match Ct fB (n * esz) eM with
      | some l=>if Nat.beq bk esz&&Nat.ble (off+l.length) cs.length then some (n,ax s.G id (.row (bI cs off l) el)) else none
      | none=>none
     | _=>none
    | _=>none
   else none
  | _=>none
 | .dL id f off sz len=>match nth s.G id,x with
  | some (.du es bk el),.list _ Rk xs=>if Nat.beq sz esz&&Nat.beq bk sz&&(Nat.beq Rk esz || xs.isEmpty)&&Nat.ble f es.length&&Nat.ble es.length f&&Nat.ble (off+Nat.min xs.length len) es.length then
    some (Nat.min xs.length len,ax s.G id (.du (bI es off (xs.take (Nat.min xs.length len))) bk el)) else none
  | _,_=>none
 | _=>none
def bw (E:Env) (s:St) (dst:Option Tmp) (b:Builtin) (args:List AV) (tys:List TypeId):Option (Bool × St):=
 match b,args with
 | .len,[x]=>match tys with
  | t :: _=>match E.ti t with
   | some i=>match i.k,x with
    | .str,.str l=>some (true,s.put dst (.v (.int .i64 l.length)))
    | .sl ..,.list _ _ es=>some (true,s.put dst (.v (.int .i64 es.length)))
    | .sl ..,.iQ _ _ _ len _=>some (true,s.put dst (.v (.int .i64 len)))
    | .sl ..,.dL _ _ _ _ len=>some (true,s.put dst (.v (.int .i64 len)))
    | .arr n _ _,_=>some (true,s.put dst (.v (.int .i64 n)))
    | .map ..,.jq=>some (true,s.put dst (.v (.int .i64 0)))
    | .map ..,.map id=>match nth s.G id with
     | some (.map es)=>some (true,s.put dst (.v (.int .i64 es.length)))
     | _=>none
    | _,_=>none
   | none=>none
  | _=>none
 | .append,[x,.list _ sz ys]=>match tys with
  | [t,u]=>match E.ti t with
   | some i=>match i.k with
    | .sl elem esz _ a7 (some z)=>
     if (Nat.beq sz esz || ys.isEmpty)&&Nat.beq t u&&Nat.ble 1 esz&&Nat.ble 1 a7&&Nat.beq z.cells.length esz&&z.aL then
      match eO s.G elem esz a7 x ys with
      | some (c,v,G')=>some (c,(s.bF G').put dst (.v v))
      | none=>none
     else none
    | _=>none
   | none=>none
  | _=>none
 | .append,[x,.str bs]=>match tys with
  | [t,u]=>match E.ti t,E.ti u with
   | some i,some j=>match i.k,j.k with
    | .sl elem esz _ a7 (some z),.str=>
     if Nat.beq esz 1&&Nat.ble 1 a7&&Nat.beq z.cells.length esz&&z.aL then
      match eO s.G elem esz a7 x (bs.map pF) with
      | some (c,v,G')=>some (c,(s.bF G').put dst (.v v))
      | none=>none
     else none
    | _,_=>none
   | _,_=>none
  | _=>none
 | .append,[x,.dL id f 0 sz len]=>match nth s.G id,tys with
  | some (.du ys bk _),[t,u]=>match E.ti t with
   | some i=>match i.k with
    | .sl elem esz _ a7 (some z)=>
     if Nat.beq sz bk&&Nat.beq sz esz&&Nat.beq f ys.length&&Nat.beq len ys.length&&aN ys&&Nat.beq t u&&Nat.ble 1 esz&&Nat.ble 1 a7&&Nat.beq z.cells.length esz&&z.aL then
      match eO s.G elem esz a7 x ys with
      | some (c,v,G')=>some (c,(s.bF G').put dst (.v v))
      | none=>none
     else none
    | _=>none
   | none=>none
  | _,_=>none
 | .copy,[d,x]=>match tys with
  | t :: _=>match E.ti t with
   | some i=>match i.k with
    | .sl _ esz _ _ _=>match pG s esz d x with
     | some (n,G')=>some (true,(s.bF G').put dst (.v (.int .i64 n)))
     | none=>none
    | _=>none
   | none=>none
  | _=>none
 | .clear,[x]=>match dst,tys,x with
  | none,[t],.dL id f off sz len=>match E.ti t,nth s.G id with
   | some i,some (.du es bk el)=>match i.k with
    | .sl elem esz _ _ (some z)=>if Nat.beq sz esz&&Nat.beq bk sz&&Nat.beq el elem&&Nat.beq z.cells.length esz&&z.aL&&z.closed then
      some (decide (f=es.length)&&decide (off+len≤es.length),s.bF (ax s.G id (.du (bI es off (List.replicate len z)) bk el))) else none
    | _=>none
   | _,_=>none
  | _,_,_=>none
 | .max,x :: l=>match Dx x l with
  | some v=>some (true,s.put dst (.v v))
  | none=>none
 | .min,x :: l=>match AP x l with
  | some v=>some (true,s.put dst (.v v))
  | none=>none
 | _,_=>none
def EK.plain:EK→Bool
 | .bool | .int | .str=>true
 | .st _=>true
 | _=>false
def EK.wide:EK→Bool
 | .st _=>true
 | _=>false
def sP:AV→Bool
 | .bool _=>true
 | .int _ _=>true
 | .str _=>true
 | _=>false
def pH:AV→AV→Bool
 | .bool a,.bool b=>a == b
 | .int k a,.int l b=>decide (k=l)&&a == b
 | .str a,.str b=>a == b
 | _,_=>false
def mI:List AV→List AV→Bool
 | [],[]=>true
 | a :: l,b :: r=>pH a b&&mI l r
 | _,_=>false
def lN:AV→AV→Bool
 | .agg xs,.agg ys=>mI xs ys
 | _,_=>false
def AD (e:EK) (a b:AV):Option Bool:=match ku e a b with
 | some true=>bif e.wide&&!lN a b then none else some true
 | r=>r
def hJ (e:EK) (k:AV):List (AV × AV)→Option (Option AV)
 | []=>some none
 | (k',v) :: l=>match AD e k k' with
  | some true=>some (some v)
  | some false=>hJ e k l
  | none=>none
def qO (e:EK) (k v:AV):List (AV × AV)→Option (List (AV × AV))
 | []=>some [(k,v)]
 | (k',v') :: l=>match AD e k k' with
  | some true=>some ((k,v) :: l)
  | some false=>match qO e k v l with
   | some r=>some ((k',v') :: r)
   | none=>none
  | none=>none
def gP:EK→AV→Bool
 | .bool,.bool _=>true
 | .int,.int _ _=>true
 | .str,.str _=>true
 | .st fs,.agg cs=>cs.all sP&&(qN fs cs cs).isSome
 | _,_=>false
def mapOf (s:St):SV→Option (List (AV × AV))
 | .v .jq=>some []
 | .v (.map id)=>match nth s.G id with
  | some (.map es)=>some es
  | _=>none
 | _=>none
def kQ (G:List GO) (id:Nat):List Nat:=match nth G id with
 | some (.aU fs _ _)=>fs
 | _=>[]
def yX (E:Env) (G:List GO) (t:TypeId) (z:AV):AV:=match E.QC t,z with
 | some (.aU e sz _),.list .nil _ []=>match iz G sz e 0 with
  | some id=>.list (.aU id (kQ G id).length) sz []
  | none=>z
 | _,_=>z
def iC (E:Env) (s:St) (t:TypeId) (m k:SV):Option (AV × Bool):=match E.ti t,mapOf s m,k with
 | some i,some es,.v k=>match i.k with
  | .map kt _ (some z)=>match E.ti kt with
   | some j=>if j.ek.plain&&gP j.ek k then match hJ j.ek k es with
     | some (some v)=>some (v,true)
     | some none=>some (z,false)
     | none=>none
    else none
   | none=>none
  | _=>none
 | _,_,_=>none
def kB (E:Env) (s:St) (t:TypeId) (m k:SV):Option (AV × Bool):=match iC E s t m k with
 | some (v,false)=>some (yX E s.G t v,false)
 | r=>r
def eP (E:Env) (s:St) (t:TypeId) (m k x:SV):Option St:=match E.ti t,m,k,x with
 | some i,.v (.map id),.v k,.v x=>match i.k,nth s.G id with
  | .map kt _ _,some (.map es)=>match E.ti kt with
   | some j=>if j.ek.plain&&gP j.ek k then match qO j.ek k x es with
     | some es'=>some (s.bF (ax s.G id (.map es')))
     | none=>none
    else none
   | none=>none
  | _,_=>none
 | _,_,_,_=>none
def bQ (l:List UInt8) (pos:Nat):Nat × Nat:=
 bif Nat.blt (l.getD pos 0).toNat 128 then ((l.getD pos 0).toNat,1) else Utf8.decode ⟨⟨l⟩⟩ pos
def kC (s:St) (dst:Option Tmp) (x:SV):Option St:=match x with
 | .v (.ptr id 0)=>match nth s.G id with
  | some (.fU l pos)=>bif Nat.blt pos l.length then
    match bQ l pos with
    | (c,n)=>some ((s.bF (ax s.G id (.fU l (pos+n)))).put dst (.v (.bi [.bool true,.int .i64 pos,.int .i32 c])))
   else some (s.put dst (.v (.bi [.bool false])))
  | _=>none
 | _=>none
def bD (es:List (AV × AV)) (i:Nat):AV × AV:=match nth es i with
 | some e=>e
 | none=>(fA,fA)
def KK (E:Env) (kt:TypeId):Option ah:=match E.Hz kt with
 | some p=>some p
 | none=>match E.ti kt with
  | some i=>match i.k with
   | .int k=>some (.int k)
   | .str=>some .str
   | _=>none
  | none=>none
def pI (E:Env) (t:TypeId) (e:AV × AV):Bool × AV × AV:=match E.ti t with
 | some i=>match i.k with
  | .map kt _ _=>match E.Hz t,KK E kt with
   | some pv,some pk=>(pk.fits e.1&&pv.fits e.2,pk.enc (pk.a8 e.1),pv.enc (pv.a8 e.2))
   | _,_=>(true,e.1,e.2)
  | _=>(true,e.1,e.2)
 | none=>(true,e.1,e.2)
def wh (E:Env) (s:St) (dst:Option Tmp) (x:SV):Option (Bool × St × List Nat × (Nat→Bool × St)):=match x with
 | .v (.ptr id 0)=>match nth s.G id with
  | some (.gN oP n left _ t)=>match nth s.G oP with
   | some (.map es)=>some (decide (es.length=n),s.put dst (.v (.bi [.bool false])),left,
     fun i=>((pI E t (bD es i)).1,(s.bF (ax s.G id (.gN oP n (left.erase i) (some i) t))).put dst (.v (.bi [.bool true,(pI E t (bD es i)).2.1,(pI E t (bD es i)).2.2]))))
   | _=>none
  | _=>none
 | _=>none
def qP (E:Env) (s:St) (o:Oper):Option (Bool × St × List Nat × (Nat→Bool × St)):=match o.op with
 | .next x false=>wh E s o.dst (bc E s.ae x)
 | _=>none
def HB:AV→Option Bool
 | .list .nil _ _=>some true
 | .list .full _ _=>some false
 | .list _ _ (_ :: _)=>some false
 | .iQ _ _ _ _ _=>some false
 | .dL _ _ _ _ (_+1)=>some false
 | .lg=>some true
 | .ptr _ _=>some false
 | .ep _=>some false
 | _=>none
def AR:AV→Option Bool
 | .list .nil _ []=>some true
 | .lg=>some false
 | _=>none
def KL (P:Program) (t:TypeId):Bool:=match P.underlying t with
 | some (.slice _)=>true
 | _=>false
def KM (P:Program) (t:TypeId):Bool:=match P.underlying t with
 | some (.pointer _)=>true
 | _=>false
def QD:AV→Bool
 | .list _ _ _=>true
 | .iQ _ _ _ _ _=>true
 | .dL _ _ _ _ _=>true
 | _=>false
def rK (P:Program) (t:TypeId) (a b:AV):Bool:=match AR b with
 | some true=>QD a&&KL P t
 | some false=>!QD a&&KM P t
 | none=>false
def KN (E:Env) (op:BinOp) (t:TypeId) (a b:AV):Option Bool:=match op,HB a with
 | .eql,some r=>bif rK E.P t a b then some r else none
 | .neq,some r=>bif rK E.P t a b then some (!r) else none
 | _,_=>none
def Rl (E:Env) (op:BinOp) (t:TypeId) (a b:AV):Option Bool:=match op,E.ti t with
 | .eql,some i=>ku i.ek a b
 | .neq,some i=>match ku i.ek a b with
  | some r=>some (!r)
  | none=>none
 | _,_=>none
def jr (E:Env) (s:St) (t:TypeId) (len:Nat) (parts:List (Nat × Operand)):Option (List AV):=
 match E.ti t,Hg E s.ae parts with
 | some i,some ps=>match i.k with
  | .sl _ esz _ _ (some z)=>
    if Nat.beq z.cells.length esz&&Nat.ble 1 esz&&Nat.ble (len * esz) 16777216&&z.aL then
     rJ (fun i=>some (i * esz,esz)) (ar (List.replicate len z)) (we ps)
    else none
  | _=>none
 | _,_=>none
def iD (E:Env) (f:FuncId) (s:St) (o:Oper):Option St:=match o.op with
 | .buildSlice t len parts=>match o.dst with
  | some d=>if E.vA f d then match E.ti t with
    | some i=>match i.k,bH E s t len parts.toList with
     | .sl elem _ _ _ _,some (.list _ esz es)=>some ((s.dy (.row (ar es) elem)).put (some d) (.v (.iQ s.G.length 0 esz len len)))
     | .sl elem esz _ _ _,none=>match jr E s t len parts.toList with
      | some cs=>some ((s.dy (.row cs elem)).put (some d) (.v (.iQ s.G.length 0 esz len len)))
      | none=>none
     | _,_=>none
    | none=>none
   else if E.vA f (d+196608) then match E.ti t with
    | some i=>match i.k,bH E s t len parts.toList with
     | .sl elem _ _ _ _,some (.list _ esz es)=>if Nat.ble len 65536 then some ((s.dy (.du es esz elem)).put (some d) (.v (.dL s.G.length len 0 esz len))) else none
     | _,_=>none
    | none=>none
   else if E.vA f (d+65536) then match E.ti t with
    | some i=>match i.k,bH E s t len parts.toList with
     | .sl elem _ _ _ _,some (.list _ esz es)=>if Nat.ble len 65536 then some ((s.dy (.tok len esz elem)).put (some d) (.v (.list (.own s.G.length) esz es))) else none
     | _,_=>none
    | none=>none
   else none
  | none=>none
 | _=>none
def wi (wk:Bool) (es:List AV):List AV:=match wk with
 | true=>es.map AV.ga
 | false=>es
def li (wk:Bool):List AV→List GO→Bool × List AV × List GO
 | [],G=>(true,[],G)
 | .dL id f 0 sz len :: l,G=>match nth G id with
  | some (.du es bk _)=>match li wk l (ax G id .dead) with
   | (c,r,G')=>(decide (f=es.length)&&decide (len=es.length)&&Nat.beq sz bk&&aN (wi wk es)&&c,.list .kq sz (wi wk es) :: r,G')
  | _=>match li wk l G with
   | (_,r,G')=>(false,r,G')
 | a :: l,G=>match li wk l G with
  | (c,r,G')=>(c,a :: r,G')
def lO (cut wk:Bool) (s:St) (t:Tmp):Option (Bool × St):=match lk s.ae t with
 | .v (.dL id f off sz len)=>match nth s.G id with
  | some (.du es bk _)=>if Nat.beq off 0&&Nat.beq sz bk then
    some (decide (f=es.length)&&(bif cut then decide (len≤es.length) else decide (len=es.length))&&aN (wi wk es),⟨.put t (.v (.list .kq sz (wi wk (bif cut then es.take len else es)))) :: s.ae,s.boxes,ax s.G id .dead,s.marks,s.ro,s.n⟩) else none
  | _=>none
 | .v (.ptr id 0)=>match nth s.G id with
  | some (.row cs _)=>some (aN cs,⟨.put t (.v (.ep cs)) :: s.ae,s.boxes,ax s.G id .dead,s.marks,s.ro,s.n⟩)
  | _=>none
 | .v (.agg cs)=>match li wk cs s.G with
  | (c,eM,G')=>some (c,⟨.put t (.v (.agg eM)) :: s.ae,s.boxes,G',s.marks,s.ro,s.n⟩)
 | _=>none
def gq (cut wk:Bool):List Operand→St→Bool × St
 | [],s=>(true,s)
 | .tmp t :: l,s=>match lO cut wk s t with
  | some (c,s')=>match gq cut wk l s' with
   | (c',s2)=>(c&&c',s2)
  | none=>gq cut wk l s
 | _ :: l,s=>gq cut wk l s
def Dy (E:Env) (f:FuncId) (s:St) (o:Oper):Option (Bool × St):=match o.dst with
 | some d=>if E.vA f (d+262144) then some (gq (E.vA f (d+393216)) (E.vA f (d+458752)) o.op.operands.toList s) else none
 | none=>none
def lj (E:Env) (s:St) (a b:TypeId) (x:SV):Option (Bool × AV):=
 match E.ti a,E.ti b,x with
 | some i,some j,.v x=>match j.k,x with
  | .int k,.int _ n=>some (true,.int k (k.wrap n))
  | .str,.list _ sz es=>match i.k with
   | .sl elem 1 _ _ _=>match E.ti elem with
    | some e=>match e.k with
     | .int .u8=>some ((Nat.beq sz 1 || es.isEmpty)&&allFit (ah.fits (.int .u8)) es,.str (oS es))
     | .int .i32=>some ((Nat.beq sz 1 || es.isEmpty)&&allFit (ah.fits (.int .i32)) es,.str (te es))
     | _=>none
    | none=>none
   | _=>none
  | .str,.iQ id off 1 len _=>match i.k,nth s.G id with
   | .sl elem 1 _ _ _,some (.row cs _)=>match E.ti elem with
    | some e=>match e.k with
     | .int .u8=>some (Nat.ble (off+len) cs.length&&allFit (ah.fits (.int .u8)) (oR off (off+len) cs),.str (oS (oR off (off+len) cs)))
     | _=>none
    | none=>none
   | _,_=>none
  | _,_=>none
 | _,_,_=>none
def Dz (id sz:Nat):List AV→List Nat→Option (List AV × List Nat)
 | [],fs=>some ([],fs)
 | .list .nil _ [] :: l,fs=>match Dz id sz l (fs++[0]) with
  | some (r,xr)=>some (.list (.aU id fs.length) sz [] :: r,xr)
  | none=>none
 | .list .full bk es :: l,fs=>if Nat.beq sz bk then match Dz id sz l (fs++[es.length]) with
   | some (r,xr)=>some (.list (.aU id fs.length) sz es :: r,xr)
   | none=>none
  else none
 | _ :: _,_=>none
def vy (e:EK) (k k':AV):Bool:=match AD e k k' with
 | some b=>b
 | none=>false
def ca (e:EK) (k:AV):List (AV × AV)→Bool
 | []=>true
 | (k',_) :: l=>(AD e k k').isSome&&ca e k l
def dZ (e:EK) (k:AV):List (AV × AV)→Option AV
 | []=>none
 | (k',v) :: l=>bif vy e k k' then some v else dZ e k l
def cb (e:EK) (k v:AV):List (AV × AV)→List (AV × AV)
 | []=>[(k,v)]
 | (k',v') :: l=>bif vy e k k' then (k,v) :: l else (k',v') :: cb e k v l
def aF (e:EK) (k z:AV) (es:List (AV × AV)):AV:=(dZ e k es).getD z
def kR (e:EK) (k:AV):List (AV × AV)→Nat
 | []=>0
 | (k',_) :: l=>bif vy e k k' then 0 else kR e k l+1
def mJ:List (AV × AV)→Nat→AV→List (AV × AV)
 | [],_,_=>[]
 | (k,_) :: l,0,x=>(k,x) :: l
 | e :: l,n+1,x=>e :: mJ l n x
def qQ (E:Env) (s:St) (x:SV):Option (Bool × AV):=match x with
 | .v (.ptr id 0)=>match nth s.G id with
  | some (.gN oP n _ (some i) t)=>match nth s.G oP with
   | some (.map es)=>some (decide (es.length=n)&&decide (i < n)&&(pI E t (bD es i)).1,.bi [(pI E t (bD es i)).2.1,(pI E t (bD es i)).2.2])
   | _=>none
  | _=>none
 | _=>none
def fO (E:Env) (s:St) (t:TypeId) (m k:SV):Option (Bool × AV × St):=match E.ti t,m,k with
 | some i,.v (.map id),.v k=>match i.k,nth s.G id with
  | .map kt _ (some z),some (.map es)=>match E.ti kt with
   | some j=>if j.ek.plain&&gP j.ek k then
     some (ca j.ek k es,.bi [aF j.ek k z es,.int .i64 (kR j.ek k es:Nat)],s.bF (ax s.G id (.map (cb j.ek k (aF j.ek k z es) es)))) else none
   | none=>none
  | _,_=>none
 | _,_,_=>none
def dO (s:St) (m st x:SV):Option (Bool × St):=match m,st,x with
 | .v (.map id),.v (.int .i64 n),.v v=>match nth s.G id with
  | some (.map es)=>some (decide (0≤n)&&decide (n.toNat < es.length),s.bF (ax s.G id (.map (mJ es n.toNat v))))
  | _=>none
 | _,_,_=>none
def gb (E:Env) (f:FuncId) (s:St) (o:Oper):Option (Bool × St):=match o.dst with
 | some d=>if E.vA f (d+524288) then match o.op with
   | .call { callee:=.builtin .append,args,argTypes }=>match kP E s.ae args.toList,argTypes.toList with
    | some [.dL id g off sz len,.list k TL (y :: ys)],[t,u]=>match E.ti t with
     | some i=>match i.k with
      | .sl elem esz _ a7 (some z)=>match E.ti elem with
       | some j=>match j.k with
        | .sl e2 Jz _ _ _=>match iz s.G Jz e2 0 with
         | some kr=>match Dz kr Jz (y :: ys) (kQ s.G kr),nth s.G id with
          | some (DA,xr),some (.du es bk e')=>
           if Nat.beq TL esz&&Nat.beq bk esz&&Nat.beq e' elem&&Nat.beq sz esz&&Nat.beq t u&&Nat.ble 1 esz&&Nat.ble 1 a7&&Nat.beq z.cells.length esz&&z.aL then
            some (decide (g=es.length)&&decide (off=0)&&decide (len=g)&&decide ((es.length+(y :: ys).length) * a7≤140737488355328),
             (s.bF (ax (ax s.G kr (.aU xr Jz e2)) id (.du (es++DA) esz elem))).put o.dst (.v (.dL id (es.length+(y :: ys).length) 0 esz (es.length+(y :: ys).length))))
           else none
          | _,_=>none
         | none=>none
        | _=>none
       | none=>none
      | _=>none
     | none=>none
    | _,_=>none
   | _=>none
  else none
 | none=>none
def rL (E:Env) (f:FuncId) (s:St) (o:Oper):Option (Bool × St):=match o.dst with
 | some d=>if E.vA f (d+524288) then match o.op with
   | .lookup t m k ok=>match E.QC t,E.ti t,bc E s.ae m,bc E s.ae k with
    | some (.aU e sz p),some i,.v (.map id),.v k=>match i.k,nth s.G id with
     | .map kt _ (some (.list .nil _ [])),some (.map es)=>match E.ti kt,iz s.G sz e 0 with
      | some j,some kr=>if j.ek.plain&&gP j.ek k then
        some (ca j.ek k es&&(ah.aU kr sz p).fits (aF j.ek k (.list (.aU kr (kQ s.G kr).length) sz []) es),
         (s.bF (ax s.G kr (.aU (kQ s.G kr++[0]) sz e))).put o.dst (.v (if ok then .bi [(ah.aU kr sz p).enc ((ah.aU kr sz p).a8 (aF j.ek k (.list (.aU kr (kQ s.G kr).length) sz []) es)),.bool (dZ j.ek k es).isSome]
          else (ah.aU kr sz p).enc ((ah.aU kr sz p).a8 (aF j.ek k (.list (.aU kr (kQ s.G kr).length) sz []) es)))))
       else none
      | _,_=>none
     | _,_=>none
    | _,_,_,_=>none
   | _=>none
  else none
 | none=>none
def Rm (E:Env) (f:FuncId) (d:Option Tmp):Bool:=match d with
 | some d=>E.vA f (d+196608)
 | none=>false
def ak (E:Env) (f:FuncId) (s:St) (o:Oper):Option (Bool × St):=
 match o.op with
 | .move x=>match bc E s.ae x with
  | .v a=>some (true,s.put o.dst (.v a))
  | .lp k off=>some (true,s.put o.dst (.lp k off))
  | .none=>some (true,s.put o.dst .none)
 | .assign x=>match bc E s.ae x with
  | .v a=>some (true,s.put o.dst (.v a))
  | .lp k off=>some (true,s.put o.dst (.lp k off))
  | .none=>some (true,s.put o.dst .none)
 | .pick c a b=>match bc E s.ae c,bc E s.ae a,bc E s.ae b with
  | .v (.bool t),.v x,.v y=>some (true,s.put o.dst (.v (xo t x y)))
  | _,_,_=>none
 | .alloc e=>match E.ti e with
  | some i=>match i.zero with
   | some z=>if z.aL then eN E f s o.dst e z.cells else none
   | none=>none
  | none=>none
 | .box t x=>match bc E s.ae x with
  | .v v=>if v.aL then eN E f s o.dst t v.cells else none
  | _=>none
 | .build t parts=>match lL E s t parts.toList with
  | some v=>some (true,s.put o.dst (.v v))
  | none=>none
 | .buildSlice t len parts=>match bH E s t len parts.toList with
  | some v=>some (true,s.put o.dst (.v v))
  | none=>none
 | .load t a=>match wg E s t (bc E s.ae a) with
  | some (c,v)=>some (c,s.put o.dst (.v v))
  | none=>none
 | .store t a x=>match o.dst,iV E s t (bc E s.ae a) (bc E s.ae x) with
  | none,some (c,s')=>some (c,s')
  | _,_=>none
 | .binOp op t x y _=>match bc E s.ae x,bc E s.ae y with
  | .v a,.v b=>match yV op a b with
   | some (c,v)=>some (c,s.put o.dst (.v v))
   | none=>match Rl E op t a b with
    | some r=>some (true,s.put o.dst (.v (.bool r)))
    | none=>match KN E op t a b with
     | some r=>some (true,s.put o.dst (.v (.bool r)))
     | none=>none
  | _,_=>none
 | .unOp op _ x=>match op,bc E s.ae x with
  | .not,.v (.bool b)=>some (true,s.put o.dst (.v (.bool (!b))))
  | .neg,.v (.int k n)=>some (true,s.put o.dst (.v (.int k (k.wrap (0 - n)))))
  | _,_=>none
 | .convert a b x=>match lj E s a b (bc E s.ae x) with
  | some (c,v)=>some (c,s.put o.dst (.v v))
  | none=>none
 | .nilCheck x=>match bc E s.ae x with
  | .v (.ptr id off)=>some (true,s.put o.dst (.v (.ptr id off)))
  | .lp k off=>some (true,s.put o.dst (.lp k off))
  | _=>none
 | .makeFunc (.func g) first captured=>match kP E s.ae first.toList,kP E s.ae captured.toList with
  | some x,some y=>some (true,s.put o.dst (.v (.fn g x y)))
  | _,_=>none
 | .fieldAddr t x j=>match jM E t (bc E s.ae x) j with
  | some p=>some (true,s.put o.dst p)
  | none=>none
 | .field t x j=>match AL E t (bc E s.ae x) j with
  | some v=>some (true,s.put o.dst (.v v))
  | none=>none
 | .indexAddr t x ix=>match jL E t (bc E s.ae x) (bc E s.ae ix) with
  | some (c,p)=>some (c,s.put o.dst p)
  | none=>none
 | .index t x ix=>match AM E t (bc E s.ae x) (bc E s.ae ix) with
  | some (c,v)=>some (c,s.put o.dst (.v v))
  | none=>none
 | .slice t x lo hi mx=>match lM E s.ae lo,lM E s.ae hi with
  | some l,some h=>match xq E t (bc E s.ae x) l h mx with
   | some (c,v)=>some (c,s.put o.dst (.v v))
   | none=>none
  | _,_=>none
 | .extract x i=>match bc E s.ae x with
  | .v (.bi vs)=>match nth vs i with
   | some v=>some (true,s.put o.dst (.v v))
   | none=>none
  | _=>none
 | .makeSlice t l c=>match E.ti t,bc E s.ae l,bc E s.ae c with
  | some i,.v (.int _ n),.v (.int _ m)=>match i.k with
   | .sl elem esz _ a7 (some z)=>
    if Nat.beq z.cells.length esz&&Nat.ble 1 esz&&z.aL then
     if Rm E f o.dst then (if z.closed then some (decide (0≤n∧n≤m∧m≤140737488355328∧m * a7≤140737488355328),
      (s.dy (.du (List.replicate n.toNat z) esz elem)).put o.dst (.v (.dL s.G.length n.toNat 0 esz n.toNat))) else none)
     else some (decide (0≤n∧n≤m∧m≤140737488355328∧m * a7≤140737488355328),
      (s.dy (.row (ar (List.replicate m.toNat z)) elem)).put o.dst (.v (.iQ s.G.length 0 esz n.toNat m.toNat)))
    else none
   | _=>none
  | _,_,_=>none
 | .lookup t m k ok=>match kB E s t (bc E s.ae m) (bc E s.ae k) with
  | some (v,b)=>some (true,s.put o.dst (.v (if ok then .bi [v,.bool b] else v)))
  | none=>none
 | .mapUpdate t m k x=>match o.dst,eP E s t (bc E s.ae m) (bc E s.ae k) (bc E s.ae x) with
  | none,some s'=>some (true,s')
  | _,_=>none
 | .insert t m k x=>match o.dst,eP E s t (bc E s.ae m) (bc E s.ae k) (bc E s.ae x) with
  | none,some s'=>some (true,s')
  | _,_=>none
 | .entry x=>match qQ E s (bc E s.ae x) with
  | some (c,v)=>some (c,s.put o.dst (.v v))
  | none=>none
 | .mapEntry t m k=>match fO E s t (bc E s.ae m) (bc E s.ae k) with
  | some (c,v,s')=>some (c,s'.put o.dst (.v v))
  | none=>none
 | .entryStore _ m st x=>match o.dst,dO s (bc E s.ae m) (bc E s.ae st) (bc E s.ae x) with
  | none,some (c,s')=>some (c,s')
  | _,_=>none
 | .range t x=>match E.ti t,bc E s.ae x with
  | some i,.v (.str l)=>match i.k with
   | .str=>some (true,(s.dy (.fU l 0)).put o.dst (.v (.ptr s.G.length 0)))
   | _=>none
  | some i,.v (.map id)=>match i.k,nth s.G id with
   | .map _ _ _,some (.map es)=>some (true,(s.dy (.gN id es.length (List.range es.length) none t)).put o.dst (.v (.ptr s.G.length 0)))
   | _,_=>none
  | _,_=>none
 | .next x true=>match kC s o.dst (bc E s.ae x) with
  | some s'=>some (true,s')
  | none=>none
 | .makeMap _ none=>some (true,(s.dy (.map [])).put o.dst (.v (.map s.G.length)))
 | .call { callee:=.builtin b,args,argTypes }=>match gb E f s o with
  | some r=>some r
  | none=>match kP E s.ae args.toList with
   | some l=>bw E s o.dst b l argTypes.toList
   | none=>none
 | _=>none
end Go.Am
namespace Go.Am
open Go
inductive TR where
 | bj
 | full (f:Nat)
 | tok (f b c:Nat)
inductive RO where
 | none
 | bj
 | bp (b:Nat)
 | tok (f b c:Nat)
 | aU (ts:List TR)
def RO.has:RO→Nat→Prop
 | .none,_=>False
 | .bj,_=>False
 | .bp b,x=>x=b
 | .tok _ b _,x=>x=b
 | .aU ts,x=>∃ j f c,nth ts j=some (.tok f x c)
def gQ (sz:Nat) (es:List AV):Prop:=∀ e∈es,e.cells.length=sz∧e.aL=true∧e.closed=true
def dg (sz:Nat) (es:List AV):Prop:=∀ e∈es,e.cells.length=sz∧e.aL=true
theorem gQ.g {sz:Nat} {es:List AV} (h:gQ sz es):dg sz es:=fun e he=>⟨(h e he).1,(h e he).2.1⟩
structure aj where
 I:Nat→Nat→Prop
 obj:List RO
def JA (b o len cap:Nat):RO→Prop
 | .none=>True
 | .bj=>False
 | .bp _=>False
 | .tok f b' c'=>len≤f∧(len=f→b=b'∧o=0∧cap=c')
 | .aU _=>False
def HC (b o len cap:Nat):TR→Prop
 | .bj=>False
 | .full f=>len≤f∧(len=f→cap=len)
 | .tok f b' c'=>len≤f∧(len=f→b=b'∧o=0∧cap=c')
def Ow (b o len cap j:Nat):RO→Prop
 | .none=>True
 | .bj=>False
 | .bp _=>False
 | .tok _ _ _=>False
 | .aU ts=>∃ t,nth ts j=some t∧HC b o len cap t
def qR:RO→Prop
 | .none=>True
 | .bj=>False
 | .bp _=>False
 | .tok _ _ _=>False
 | .aU _=>True
def lP:RO→Prop
 | .none=>True
 | .bj=>True
 | .bp _=>False
 | .tok f _ _=>1≤f
 | .aU _=>False
def DB (b o f off sz cap:Nat):RO→Prop
 | .none=>True
 | .bj=>False
 | .bp _=>False
 | .tok f' b' c'=>f≤f'∧(f=f'→b=b'∧off+cap=c'∧(o=off * sz∨cap=0))
 | .aU _=>False
def ET (b o f i off sz:Nat):RO→Prop
 | .none=>True
 | .bj=>False
 | .bp _=>False
 | .tok f' b' _=>f≤f'∧(f=f'→b=b'∧o=i * sz+off)
 | .aU _=>False
def xu (R:aj) (k:LK) (b o len cap:Nat):Prop:=match k with
 | .nil=>False
 | .full=>cap=len
 | .kq=>True
 | .own id=>∃ ro,nth R.obj id=some ro∧JA b o len cap ro
 | .aU id j=>∃ ro,nth R.obj id=some ro∧Ow b o len cap j ro
mutual
inductive Rel (R:aj) (w:World):AV→Value→Prop
 | bool (b:Bool):Rel R w (.bool b) (.bool b)
 | int (k:IntKind) (n:Int):Rel R w (.int k n) (.int k n)
 | str (l:List UInt8):Rel R w (.str l) (.string ⟨⟨l⟩⟩)
 | agg {cs:List AV} {vs:List Value} (h:aE R w cs vs) (h1:∀ v∈vs,v.oneCell'=true):Rel R w (.agg cs) (.agg ⟨vs⟩)
 | bi {cs:List AV} {vs:List Value} (h:aE R w cs vs):Rel R w (.bi cs) (.tuple ⟨vs⟩)
 | lg:Rel R w .lg (.pointer none)
 | ptr {id off b:Nat} (h:nth R.obj id=some (.bp b)):Rel R w (.ptr id off) (.pointer (some ⟨b,off,none⟩))
 | ep {cs:List AV} {b o:Nat} (h:eg R w b o cs):Rel R w (.ep cs) (.pointer (some ⟨b,o,none⟩))
 | iE {sz:Nat}:Rel R w (.list .nil sz []) (.slice none 0 0)
 | hY {sz:Nat}:Rel R w (.list .kq sz []) (.slice none 0 0)
 | lQ {sz:Nat} {a:Addr}:Rel R w (.list .kq sz []) (.slice (some a) 0 0)
 | lR {id sz:Nat} {ro:RO} (h:nth R.obj id=some ro) (ho:lP ro):Rel R w (.list (.own id) sz []) (.slice none 0 0)
 | kS {id j sz:Nat} {ro:RO} (h:nth R.obj id=some ro) (ho:qR ro):Rel R w (.list (.aU id j) sz []) (.slice none 0 0)
 | list {k:LK} {sz:Nat} {es:List AV} {b o len cap:Nat} (h:gd R w b o sz es) (hl:len=es.length) (hc:len≤cap) (hk:xu R k b o len cap):Rel R w (.list k sz es) (.slice (some ⟨b,o,none⟩) len cap)
 | iQ {id off sz len cap b:Nat} (h:nth R.obj id=some (.bp b)) (hc:len≤cap):Rel R w (.iQ id off sz len cap) (.slice (some ⟨b,off,none⟩) len cap)
 | iW {id sz:Nat} {ro:RO} (h:nth R.obj id=some ro) (ho:lP ro):Rel R w (.dL id 0 0 sz 0) (.slice none 0 0)
 | dL {id f off sz len cap b o:Nat} {ro:RO} (h:nth R.obj id=some ro) (ho:DB b o f off sz cap ro) (hc:len≤cap):Rel R w (.dL id f off sz len) (.slice (some ⟨b,o,none⟩) len cap)
 | gp {id f i off sz b o:Nat} {t:TypeId} {ro:RO} (h:nth R.obj id=some ro) (ho:ET b o f i off sz ro):Rel R w (.gp id f i off sz t) (.pointer (some ⟨b,o,none⟩))
 | jq:Rel R w .jq (.map none)
 | map {id b:Nat} (h:nth R.obj id=some (.bp b)):Rel R w (.map id) (.map (some b))
 | dq:Rel R w .dq .nilFunc
 | fn {f:FuncId} {xs ys:List AV} {vs us:List Value} (h:aE R w xs vs) (h':aE R w ys us):Rel R w (.fn f xs ys) (.func (.func f) ⟨vs⟩ ⟨us⟩)
 | yield {id b:Nat} (h:nth R.obj id=some (.bp b)):Rel R w (.yield id) (.func (.yield b) #[] #[])
 | oo:Rel R w .oo .nilIface
 | iface {t:TypeId} {v:AV} {c:Value} (h:Rel R w v c):Rel R w (.iface t v) (.iface t c)
inductive aE (R:aj) (w:World):List AV→List Value→Prop
 | nil:aE R w [] []
 | cons {a:AV} {c:Value} {l:List AV} {cs:List Value} (h:Rel R w a c) (t:aE R w l cs):aE R w (a :: l) (c :: cs)
inductive gd (R:aj) (w:World):Nat→Nat→Nat→List AV→Prop
 | nil {b o sz:Nat}:gd R w b o sz []
 | cons {b o sz:Nat} {e:AV} {es:List AV} (hl:e.cells.length=sz) (ht:e.aL=true) (hk:e.closed=true) (h:eg R w b o e.cells) (t:gd R w b (o+sz) sz es):gd R w b o sz (e :: es)
inductive eg (R:aj) (w:World):Nat→Nat→List AV→Prop
 | nil {b o:Nat}:eg R w b o []
 | cons {b o:Nat} {a:AV} {c:Value} {l:List AV} (hc:w.cell? ⟨b,o,none⟩=some c) (h1:c.oneCell'=true) (hi:R.I b o) (h:Rel R w a c) (t:eg R w b (o+1) l):eg R w b o (a :: l)
end
def kT:TR→TR→Prop
 | .bj,.bj=>True
 | .bj,.full _=>False
 | .bj,.tok f _ _=>1≤f
 | .full _,.bj=>False
 | .full f,.full f'=>f'=f
 | .full f,.tok f' _ _=>f < f'
 | .tok _ _ _,.bj=>False
 | .tok _ _ _,.full _=>False
 | .tok f b c,.tok f' b' c'=>f≤f'∧(f'=f→b'=b∧c'=c)
theorem kT.refl (t:TR):kT t t:=by cases t <;> simp [kT]
theorem kT.trans {a b c:TR} (h:kT a b) (k:kT b c):kT a c:=by
 cases a <;> cases b <;> cases c <;> simp only [kT] at * <;> omega
def qS (ts NN:List TR):Prop:=∀ j t,nth ts j=some t→∃ t',nth NN j=some t'∧kT t t'
theorem qS.refl (ts:List TR):qS ts ts:=fun _ t h=>⟨t,h,kT.refl t⟩
theorem qS.trans {a b c:List TR} (h:qS a b) (k:qS b c):qS a c:=fun j t hj=>
 let ⟨_,h1,h2⟩:=h j t hj
 let ⟨t2,k1,k2⟩:=k j _ h1
 ⟨t2,k1,h2.trans k2⟩
def b9:RO→RO→Prop
 | .none,r=>r=.none
 | .bp b,r=>r=.bp b
 | .bj,.none=>True
 | .bj,.bj=>True
 | .bj,.bp _=>False
 | .bj,.tok f _ _=>1≤f
 | .tok _ _ _,.none=>True
 | .tok _ _ _,.bj=>False
 | .tok _ _ _,.bp _=>False
 | .tok f b c,.tok f' b' c'=>f≤f'∧(f'=f→b'=b∧c'=c)
 | .bj,.aU _=>False
 | .tok _ _ _,.aU _=>False
 | .aU _,.none=>True
 | .aU _,.bj=>False
 | .aU _,.bp _=>False
 | .aU _,.tok _ _ _=>False
 | .aU ts,.aU NN=>qS ts NN
theorem b9.refl (r:RO):b9 r r:=by cases r <;> simp [b9,qS.refl]
theorem b9.trans {a b c:RO} (h:b9 a b) (k:b9 b c):b9 a c:=by
 cases a with
 | none=>simp only [b9] at h; subst h; exact k
 | bp x=>simp only [b9] at h; subst h; exact k
 | bj=>
  cases b with
  | none=>simp only [b9] at k; subst k; trivial
  | bj=>exact k
  | bp z=>exact h.elim
  | tok f' x' y'=>
   cases c with
   | none=>trivial
   | bj=>exact k.elim
   | bp z=>exact k.elim
   | aU _=>exact k.elim
   | tok f'' x'' y''=>simp only [b9] at *; omega
  | aU _=>exact h.elim
 | tok f x y=>
  cases b with
  | none=>simp only [b9] at k; subst k; trivial
  | bj=>exact h.elim
  | bp z=>exact h.elim
  | tok f' x' y'=>
   cases c with
   | none=>trivial
   | bj=>exact k.elim
   | bp z=>exact k.elim
   | tok f'' x'' y''=>
    simp only [b9] at *
    refine ⟨Nat.le_trans h.1 k.1,fun e=>?_⟩
    obtain ⟨h1,h2⟩:=h; obtain ⟨k1,k2⟩:=k
    have e1:f'=f:=by omega
    have e2:f''=f':=by omega
    exact ⟨(k2 e2).1.trans (h2 e1).1,(k2 e2).2.trans (h2 e1).2⟩
   | aU _=>exact k.elim
  | aU _=>exact h.elim
 | aU ts=>
  cases b with
  | none=>simp only [b9] at k; subst k; trivial
  | bj=>exact h.elim
  | bp z=>exact h.elim
  | tok f' x' y'=>exact h.elim
  | aU NN=>
   cases c with
   | none=>trivial
   | bj=>exact k.elim
   | bp z=>exact k.elim
   | tok f' x' y'=>exact k.elim
   | aU ts''=>exact qS.trans h k
def mK (r r':Loop):Prop:=r'.tmps=r.tmps∧r'.params=r.params∧r'.assign=r.assign∧r'.body=r.body∧r'.defers=r.defers
def fW (w w':World):Prop:=∀ (b:Nat) (r:Loop),w.heap[b]?=some (Obj.loop r)→∃ r',w'.heap[b]?=some (Obj.loop r')∧mK r r'
theorem fW.refl (w:World):fW w w:=fun _ r h=>⟨r,h,rfl,rfl,rfl,rfl,rfl⟩
theorem fW.trans {w w1 w2:World} (h:fW w w1) (k:fW w1 w2):fW w w2:=fun b r hb=>
 let ⟨_,h1,h2,h3,h4,h5,h6⟩:=h b r hb
 let ⟨r2,k1,k2,k3,k4,k5,k6⟩:=k b _ h1
 ⟨r2,k1,k2.trans h2,k3.trans h3,k4.trans h4,k5.trans h5,k6.trans h6⟩
theorem fW.old {w w':World} (h:∀ b,b < w.heap.size→w'.heap[b]?=w.heap[b]?):fW w w':=fun b r hb=>
 ⟨r,(h b (by
  rcases Nat.lt_or_ge b w.heap.size with bK | yJ
  ·exact bK
  ·rw [Array.getElem?_eq_none yJ] at hb; cases hb)).trans hb,rfl,rfl,rfl,rfl,rfl⟩
structure Ext (R:aj) (w:World) (R':aj) (w':World):Prop where
 I:∀ b o,R.I b o→R'.I b o
 cell:∀ b o,R.I b o→w'.cell? ⟨b,o,none⟩=w.cell? ⟨b,o,none⟩
 obj:∀ id ro,nth R.obj id=some ro→∃ lf,nth R'.obj id=some lf∧b9 ro lf
 lp:fW w w'
theorem Ext.refl (R:aj) (w:World):Ext R w R w:=⟨fun _ _ h=>h,fun _ _ _=>rfl,fun _ ro h=>⟨ro,h,b9.refl ro⟩,fW.refl w⟩
theorem Ext.trans {R R' EU:aj} {w w' HD:World} (h:Ext R w R' w') (k:Ext R' w' EU HD):Ext R w EU HD:=
 ⟨fun b o hi=>k.I b o (h.I b o hi),fun b o hi=>(k.cell b o (h.I b o hi)).trans (h.cell b o hi),fun id ro hr=>
  let ⟨_,h1,h2⟩:=h.obj id ro hr
  let ⟨r2,h3,h4⟩:=k.obj id _ h1
  ⟨r2,h3,h2.trans h4⟩,h.lp.trans k.lp⟩
theorem Ext.bp {R R':aj} {w w':World} (h:Ext R w R' w') {id b:Nat} (hb:nth R.obj id=some (.bp b)):nth R'.obj id=some (.bp b):=by
 obtain ⟨r,h1,h2⟩:=h.obj id _ hb
 simp only [b9] at h2
 subst h2
 exact h1
theorem xu.mono {R R':aj} {w w':World} (e:Ext R w R' w') {k:LK} {b o len cap:Nat} (h:xu R k b o len cap):xu R' k b o len cap:=by
 cases k with
 | nil=>exact h
 | full=>exact h
 | kq=>trivial
 | own id=>
  obtain ⟨ro,h1,h2⟩:=h
  obtain ⟨lf,h3,h4⟩:=e.obj id ro h1
  refine ⟨lf,h3,?_⟩
  cases ro with
  | none=>simp only [b9] at h4; subst h4; trivial
  | bj=>exact h2.elim
  | bp x=>exact h2.elim
  | tok f x y=>
   cases lf with
   | none=>trivial
   | bj=>exact h4.elim
   | bp z=>exact h4.elim
   | tok f' x' y'=>
    simp only [b9,JA] at *
    refine ⟨by omega,fun e=>?_⟩
    have e1:f'=f:=by omega
    have h5:=h2.2 (by omega)
    have h6:=h4.2 e1
    exact ⟨h5.1.trans h6.1.symm,h5.2.1,h5.2.2.trans h6.2.symm⟩
   | aU _=>exact h4.elim
  | aU _=>exact h2.elim
 | aU id j=>
  obtain ⟨ro,h1,h2⟩:=h
  obtain ⟨lf,h3,h4⟩:=e.obj id ro h1
  refine ⟨lf,h3,?_⟩
  cases ro with
  | none=>simp only [b9] at h4; subst h4; trivial
  | bj=>exact h2.elim
  | bp x=>exact h2.elim
  | tok _ _ _=>exact h2.elim
  | aU ts=>
   cases lf with
   | none=>trivial
   | bj=>exact h4.elim
   | bp z=>exact h4.elim
   | tok _ _ _=>exact h4.elim
   | aU NN=>
    obtain ⟨t,k1,k2⟩:=h2
    obtain ⟨t',k3,k4⟩:=h4 j t k1
    refine ⟨t',k3,?_⟩
    cases t with
    | bj=>exact k2.elim
    | full f=>
     cases t' with
     | bj=>exact k4.elim
     | full f'=>simp only [kT,HC] at *; subst k4; exact k2
     | tok f' x' y'=>simp only [kT,HC] at *; exact ⟨by omega,fun e=>by omega⟩
    | tok f x y=>
     cases t' with
     | bj=>exact k4.elim
     | full f'=>exact k4.elim
     | tok f' x' y'=>
      simp only [kT,HC] at *
      refine ⟨by omega,fun e=>?_⟩
      have e1:f'=f:=by omega
      have h5:=k2.2 (by omega)
      have h6:=k4.2 e1
      exact ⟨h5.1.trans h6.1.symm,h5.2.1,h5.2.2.trans h6.2.symm⟩
theorem lP.mono {ro lf:RO} (h:lP ro) (e:b9 ro lf):lP lf:=by
 cases ro with
 | none=>simp only [b9] at e; subst e; trivial
 | bj=>cases lf <;> first | trivial | exact e.elim | exact e
 | bp _=>exact h.elim
 | tok f x y=>
  cases lf with
  | none=>trivial
  | bj=>exact e.elim
  | bp z=>exact e.elim
  | tok f' x' y'=>simp only [b9,lP] at *; omega
  | aU _=>exact e.elim
 | aU _=>exact h.elim
theorem qR.mono {ro lf:RO} (h:qR ro) (e:b9 ro lf):qR lf:=by
 cases ro with
 | none=>simp only [b9] at e; subst e; trivial
 | bj=>exact h.elim
 | bp _=>exact h.elim
 | tok _ _ _=>exact h.elim
 | aU ts=>
  cases lf with
  | none=>trivial
  | bj=>exact e.elim
  | bp z=>exact e.elim
  | tok _ _ _=>exact e.elim
  | aU NN=>trivial
theorem DB.mono {b o f off sz cap:Nat} {ro lf:RO} (h:DB b o f off sz cap ro) (e:b9 ro lf):DB b o f off sz cap lf:=by
 cases ro with
 | none=>simp only [b9] at e; subst e; trivial
 | bj=>exact h.elim
 | bp _=>exact h.elim
 | tok f1 x y=>
  cases lf with
  | none=>trivial
  | bj=>exact e.elim
  | bp z=>exact e.elim
  | tok f' x' y'=>
   simp only [b9,DB] at *
   refine ⟨by omega,fun k=>?_⟩
   obtain ⟨e1,e2⟩:=e.2 (by omega)
   obtain ⟨h1,h2,h3⟩:=h.2 (by omega)
   exact ⟨h1.trans e1.symm,h2.trans e2.symm,h3⟩
  | aU _=>exact e.elim
 | aU _=>exact h.elim
theorem ET.mono {b o f i off sz:Nat} {ro lf:RO} (h:ET b o f i off sz ro) (e:b9 ro lf):ET b o f i off sz lf:=by
 cases ro with
 | none=>simp only [b9] at e; subst e; trivial
 | bj=>exact h.elim
 | bp _=>exact h.elim
 | tok f1 x y=>
  cases lf with
  | none=>trivial
  | bj=>exact e.elim
  | bp z=>exact e.elim
  | tok f' x' y'=>
   simp only [b9,ET] at *
   refine ⟨by omega,fun k=>?_⟩
   obtain ⟨e1,e2⟩:=e.2 (by omega)
   obtain ⟨h1,h2⟩:=h.2 (by omega)
   exact ⟨h1.trans e1.symm,h2⟩
  | aU _=>exact e.elim
 | aU _=>exact h.elim
mutual
theorem Rel.mono {R R':aj} {w w':World} (e:Ext R w R' w'):∀ {a:AV} {c:Value},Rel R w a c→Rel R' w' a c
 | _,_,.bool b=>.bool b
 | _,_,.int k n=>.int k n
 | _,_,.str l=>.str l
 | _,_,.agg h h1=>.agg (h.mono e) h1
 | _,_,.bi h=>.bi (h.mono e)
 | _,_,.lg=>.lg
 | _,_,.ptr h=>.ptr (e.bp h)
 | _,_,.ep h=>.ep (h.mono e)
 | _,_,.iE=>.iE
 | _,_,.hY=>.hY
 | _,_,.lQ=>.lQ
 | _,_,.lR h ho=>let ⟨_,h3,h4⟩:=e.obj _ _ h; .lR h3 (ho.mono h4)
 | _,_,.kS h ho=>let ⟨_,h3,h4⟩:=e.obj _ _ h; .kS h3 (ho.mono h4)
 | _,_,.list h hl hc hk=>.list (h.mono e) hl hc (hk.mono e)
 | _,_,.iQ h hc=>.iQ (e.bp h) hc
 | _,_,.iW h ho=>let ⟨_,h3,h4⟩:=e.obj _ _ h; .iW h3 (ho.mono h4)
 | _,_,.dL h ho hc=>let ⟨_,h3,h4⟩:=e.obj _ _ h; .dL h3 (ho.mono h4) hc
 | _,_,.gp h ho=>let ⟨_,h3,h4⟩:=e.obj _ _ h; .gp h3 (ho.mono h4)
 | _,_,.jq=>.jq
 | _,_,.map h=>.map (e.bp h)
 | _,_,.dq=>.dq
 | _,_,.fn h h'=>.fn (h.mono e) (h'.mono e)
 | _,_,.yield h=>.yield (e.bp h)
 | _,_,.oo=>.oo
 | _,_,.iface h=>.iface (h.mono e)
theorem aE.mono {R R':aj} {w w':World} (e:Ext R w R' w'):∀ {l:List AV} {cs:List Value},aE R w l cs→aE R' w' l cs
 | _,_,.nil=>.nil
 | _,_,.cons h t=>.cons (h.mono e) (t.mono e)
theorem gd.mono {R R':aj} {w w':World} (e:Ext R w R' w'):∀ {b o sz:Nat} {l:List AV},gd R w b o sz l→gd R' w' b o sz l
 | _,_,_,_,.nil=>.nil
 | _,_,_,_,.cons hl ht hk h t=>.cons hl ht hk (h.mono e) (t.mono e)
theorem eg.mono {R R':aj} {w w':World} (e:Ext R w R' w'):∀ {b o:Nat} {l:List AV},eg R w b o l→eg R' w' b o l
 | _,_,_,.nil=>.nil
 | _,_,_,.cons hc h1 hi h t=>.cons ((e.cell _ _ hi).trans hc) h1 (e.I _ _ hi) (h.mono e) (t.mono e)
end
end Go.Am
namespace Go.Am
open Go
section lists
variable {α:Type}
theorem aR (l:List α) (n:Nat):nth l n=l[n]?:=by
 induction l generalizing n with
 | nil=>simp [nth]
 | cons a l ih=>cases n <;> simp [nth,ih]
theorem gr (l:List α) (n:Nat) (x:α):ax l n x=l.set n x:=by
 induction l generalizing n with
 | nil=>simp [ax]
 | cons a l ih=>cases n <;> simp [ax,ih]
theorem bo {l:List α} {n:Nat} {x:α} (h:nth l n=some x):n < l.length:=by
 rw [aR] at h
 exact (List.getElem?_eq_some_iff.1 h).1
theorem aB {l:List α} {n:Nat} {x y:α} (h:nth l n=some y):nth (ax l n x) n=some x:=by
 have:=bo h
 rw [aR,gr,List.getElem?_set_self this]
theorem bl {l:List α} {n m:Nat} {x:α} (h:n≠m):nth (ax l n x) m=nth l m:=by
 rw [aR,gr,aR,List.getElem?_set_ne h]
theorem cO {l:List α} {n m:Nat} {x y:α} (h:nth (ax l n x) m=some y):(n=m∧y=x∧m < l.length)∨(n≠m∧nth l m=some y):=by
 by_cases e:n=m
 ·subst e
  have hl:=bo h
  rw [gr,List.length_set] at hl
  rw [aR,gr,List.getElem?_set_self hl] at h
  exact .inl ⟨rfl,(Option.some.inj h).symm,hl⟩
 ·rw [bl e] at h
  exact .inr ⟨e,h⟩
@[simp] theorem gA (l:List α) (n:Nat) (x:α):(ax l n x).length=l.length:=by rw [gr,List.length_set]
theorem eh (l:List α) (x:α):nth (l++[x]) l.length=some x:=by rw [aR]; simp
theorem cP {l:List α} {n:Nat} {y x:α} (h:nth l n=some y):nth (l++[x]) n=some y:=by
 have:=bo h
 rw [aR] at *
 rw [List.getElem?_append_left this]
 exact h
theorem au {l:List α} {n:Nat} {y x:α} (h:nth (l++[x]) n=some y):nth l n=some y∨(n=l.length∧y=x):=by
 rw [aR] at *
 by_cases e:n < l.length
 ·rw [List.getElem?_append_left e] at h; exact .inl h
 ·rw [List.getElem?_append_right (by omega)] at h
  have hl:=(List.getElem?_eq_some_iff.1 h).1
  simp at hl
  have:n - l.length=0:=by omega
  rw [this] at h
  simp at h
  exact .inr ⟨by omega,h.symm⟩
theorem mL:∀ {l:List α} {n:Nat} {x:α},nth l n=some x→ax l n x=l
 | [],_,_,h=>by cases h
 | a :: l,0,x,h=>by cases h; rfl
 | a :: l,n+1,x,h=>by
  show a :: ax l n x=a :: l
  rw [mL (show nth l n=some x from h)]
end lists
def KO (R:aj) (w:World) (Ox:aT→Array Value→Prop) (busy:Bool) (pending:Option Code) (ae:aT) (n:Nat) (params:List Tmp) (assign body:Code) (defers:Nat) (done:Bool) (b:Nat):Prop:=
 ∃ (r:Loop) (db:Nat),w.heap[b]?=some (.loop r)∧r.state=(if done then .done else if busy then .busy else .ready)∧r.pending=pending ∧
  Ox ae r.tmps∧r.tmps.size=n∧r.params=⟨params⟩∧r.assign=assign∧r.body=body∧r.defers=db∧nth R.obj defers=some (.bp db)
def ou (R:aj) (w:World) (β:Nat→Nat):SV→Value→Prop
 | .none,_=>True
 | .v a,c=>Rel R w a c
 | .lp k off,c=>c=.pointer (some ⟨β k,off,none⟩)
def mM (R:aj) (w:World) (β:Nat→Nat) (ae:aT) (tmps:Array Value):Prop:=
 ∀ i,lk ae i≠.none→∃ c,tmps[i]?=some c∧ou R w β (lk ae i) c
def Cv:aT→Bool
 | []=>true
 | .put _ (.lp _ _) :: _=>false
 | _ :: l=>Cv l
def cU (R:aj) (w:World):List (AV × AV)→List MapEntry→Prop
 | [],[]=>True
 | (k,v) :: l,e :: es=>Rel R w k e.key∧Rel R w v e.val∧cU R w l es
 | _,_=>False
def wj (R:aj) (w:World) (sz:Nat) (e:TypeId) (f:Nat):TR→Prop
 | .bj=>f=0
 | .full f'=>f'=f
 | .tok f' b c=>f'=f∧∃ cur,w.heap[b]?=some (.cells cur e (0,0))∧f≤c∧c≤maxLen∧cur.size=c * sz∧∀ o,f * sz≤o→¬ R.I b o
def Oy (ts:List TR):Prop:=∀ i j f b c f' c',nth ts i=some (.tok f b c)→nth ts j=some (.tok f' b c')→i=j
def tf (R:aj) (w:World) (sz:Nat) (e:TypeId) (fs:List Nat) (ts:List TR):Prop:=
 ts.length=fs.length∧Oy ts∧∀ j f t,nth fs j=some f→nth ts j=some t→wj R w sz e f t
def iX (av:Array MapEntry) (clock:Nat):Prop:=clock=av.size∧∀ (i:Nat) (e:MapEntry),av.toList[i]?=some e→e.born=i
def Oz (R:aj) (w:World) (oP n:Nat) (left:List Nat) (cur:Option Nat) (b:Nat):Prop:=
 ∃ bm seen c0,nth R.obj oP=some (.bp bm)∧w.heap[b]?=some (.mapIter (some bm) n seen c0)∧(∀ i,i < n→(i∈left↔seen.contains i=false))∧(∀ i∈left,i < n)∧left.Nodup∧n≤c0∧∀ i,cur=some i→seen.back?=some i∧c0=n
def fX (R:aj) (w:World):GO→RO→Prop
 | .dead,.none=>True
 | .dead,.bj=>True
 | .dead,.bp b=>b < w.heap.size
 | .dead,.tok _ b _=>b < w.heap.size
 | .dead,.aU ts=>∀ j f b c,nth ts j=some (.tok f b c)→b < w.heap.size
 | .aU fs sz e,.aU ts=>tf R w sz e fs ts
 | .gN oP n left cur _,.bp b=>Oz R w oP n left cur b
 | .tok f _ _,.bj=>f=0
 | .row cs el,.bp b=>∃ vs,w.heap[b]?=some (.cells ⟨vs⟩ el (0,0))∧aE R w cs vs∧(∀ v∈vs,v.oneCell'=true)∧∀ o,¬ R.I b o
 | .tok f sz e,.tok f' b c=>f'=f∧∃ cur,w.heap[b]?=some (.cells cur e (0,0))∧f≤c∧c≤maxLen∧cur.size=c * sz∧∀ o,f * sz≤o→¬ R.I b o
 | .du es _ _,.bj=>es=[]
 | .du es sz e,.tok f b c=>f=es.length∧dg sz es∧∃ cur vs,w.heap[b]?=some (.cells cur e (0,0))∧f≤c∧c≤maxLen∧cur.size=c * sz∧(∀ o,¬ R.I b o)∧aE R w (ar es) vs∧(∀ v∈vs,v.oneCell'=true)∧cur.toList.take (f * sz)=vs
 | .map es,.bp b=>∃ av clock,w.heap[b]?=some (.map av clock)∧cU R w es av.toList∧iX av clock
 | .fU l pos,.bp b=>w.heap[b]?=some (.stringIter ⟨⟨l⟩⟩ pos)
 | .loop busy pending _ ae n params assign body defers done,.bp b=>KO R w (mM R w (fun _=>0)) busy pending ae n params assign body defers done b∧Cv ae=true
 | .defers o,.bp b=>w.heap[b]?=some (.deferred (if o then some [] else none))
 | _,_=>False
def kU (E:Env) (R:aj) (w:World) (g:Nat) (cs:List AV):Prop:=
 eg R w g 0 cs∧(E.gx g=true→R.I g cs.length∧w.cell? ⟨g,cs.length,none⟩=none)
theorem kU.mono {E:Env} {R R':aj} {w w':World} {g:Nat} {cs:List AV} (h:kU E R w g cs) (e:Ext R w R' w'):kU E R' w' g cs:=
 ⟨h.1.mono e,fun hx=>⟨e.I _ _ (h.2 hx).1,(e.cell _ _ (h.2 hx).1).trans (h.2 hx).2⟩⟩
structure dP (E:Env) (R:aj) (w:World) (G:List GO):Prop where
 len:R.obj.length=G.length
 obj:∀ id go ro,nth G id=some go→nth R.obj id=some ro→fX R w go ro
 inj:∀ i j ri rj b,nth R.obj i=some ri→nth R.obj j=some rj→ri.has b→rj.has b→i=j
 wf:∀ b o,R.I b o→b < w.heap.size
 dC:∀ g cs,E.dC g=some cs→kU E R w g cs
 lo:E.lo≤w.drawn
def Live (R:aj) (b:Nat):Prop:=∃ id ro,nth R.obj id=some ro∧ro.has b
structure HE (R:aj) (w:World) (β:Nat→Nat) (boxes:cm):Prop where
 box:∀ k cs,de boxes k=some cs→(∃ vs el,w.heap[β k]?=some (.cells ⟨vs⟩ el (0,0))∧aE R w cs vs∧(∀ v∈vs,v.oneCell'=true))∧(∀ o,¬ R.I (β k) o)∧¬ Live R (β k)
 inj:∀ k k' cs eM,de boxes k=some cs→de boxes k'=some eM→β k=β k'→k=k'
def ov (R:aj):List Nat→List Deferred→Prop
 | [],[]=>True
 | id :: l,d :: ds=>(∃ b,nth R.obj id=some (.bp b)∧d={ target:=.collected b,args:=#[] })∧ov R l ds
 | _,_=>False
structure aV (E:Env) (R:aj) (w:World) (β:Nat→Nat) (s:St) (a:Act):Prop where
 g:dP E R w s.G
 b:HE R w β s.boxes
 t:mM R w β s.ae a.tmps
 n:a.tmps.size=s.n
 d:ov R s.marks a.defers
def Own (R:aj) (β:Nat→Nat) (boxes:cm) (b:Nat):Prop:=
 Live R b∨∃ k cs,de boxes k=some cs∧β k=b
structure Step (R:aj) (w:World) (β:Nat→Nat) (bx:cm) (R':aj) (w':World) (β':Nat→Nat) (EV:cm):Prop where
 ext:Ext R w R' w'
 os:w'.os=w.os
 tape:w'.tape=w.tape
 output:w'.output=w.output
 size:w.heap.size≤w'.heap.size
 aW:∀ b,b < w.heap.size→¬ Own R β bx b→w'.heap[b]?=w.heap[b]?
 own:∀ b,b < w.heap.size→Own R' β' EV b→Own R β bx b
 im:∀ b o,R'.I b o→b < w.heap.size→¬ Own R β bx b→R.I b o
theorem Step.refl (R:aj) (w:World) (β:Nat→Nat) (bx:cm):Step R w β bx R w β bx:=
 ⟨Ext.refl R w,rfl,rfl,rfl,Nat.le_refl _,fun _ _ _=>rfl,fun _ _ h=>h,fun _ _ h _ _=>h⟩
theorem Step.trans {R R1 R2:aj} {w w1 w2:World} {β β1 β2:Nat→Nat} {x x1 x2:cm}
  (h:Step R w β x R1 w1 β1 x1) (k:Step R1 w1 β1 x1 R2 w2 β2 x2):Step R w β x R2 w2 β2 x2 where
 ext:=h.ext.trans k.ext
 os:=k.os.trans h.os
 tape:=k.tape.trans h.tape
 output:=k.output.trans h.output
 size:=Nat.le_trans h.size k.size
 aW:=fun b hb hn=>(k.aW b (Nat.lt_of_lt_of_le hb h.size) (fun ho=>hn (h.own b hb ho))).trans (h.aW b hb hn)
 own:=fun b hb ho=>h.own b hb (k.own b (Nat.lt_of_lt_of_le hb h.size) ho)
 im:=fun b o hi hb hn=>h.im b o (k.im b o hi (Nat.lt_of_lt_of_le hb h.size) (fun ho=>hn (h.own b hb ho))) hb hn
theorem ou.mono {R R':aj} {w w':World} {β:Nat→Nat} (e:Ext R w R' w') {x:SV} {c:Value} (h:ou R w β x c):ou R' w' β x c:=by
 cases x with
 | none=>trivial
 | v a=>exact Rel.mono e h
 | lp k off=>exact h
theorem pJ (n:Nat):Nat.beq n n=true:=Nat.beq_refl n
theorem lS {n m:Nat} (h:n≠m):Nat.beq n m=false:=by
 cases hb:Nat.beq n m with
 | true=>exact absurd (Nat.eq_of_beq_eq_true hb) h
 | false=>rfl
theorem aw (l:aT) (d:Nat) (x:SV):lk (.put d x :: l) d=x:=by simp [lk]
theorem aG {l:aT} {d t:Nat} {x:SV} (h:d≠t):lk (.put d x :: l) t=lk l t:=by simp [lk,lS h]
theorem Cw {l:aT} {d t:Nat}:(lk (.kill d :: l) t=lk l t∧∀ k off,lk l t=.lp k off→k≠d)∨lk (.kill d :: l) t=.none:=by
 simp only [lk]
 cases h:lk l t with
 | none=>exact .inr rfl
 | v a=>exact .inl ⟨rfl,fun _ _ e=>by cases e⟩
 | lp k off=>
  by_cases hk:k=d
  ·subst hk
   exact .inr (by simp)
  ·exact .inl ⟨by simp [lS hk],fun k' fB e=>by cases e; exact hk⟩
theorem EW (l:cm) (d:Nat) (cs:List AV):de ((d,cs) :: l) d=some cs:=by simp [de]
theorem eu {l:cm} {d k:Nat} {cs eM:List AV} (h:de ((d,cs) :: l) k=some eM):(d=k∧eM=cs)∨(d≠k∧de l k=some eM):=by
 by_cases e:d=k
 ·subst e
  rw [EW] at h
  exact .inl ⟨rfl,(Option.some.inj h).symm⟩
 ·simp only [de,lS e,cond_false] at h
  exact .inr ⟨e,h⟩
theorem HF {l:cm} (h:l.all (fun p=>aN p.2)=true) {k:Nat} {cs:List AV} (hk:de l k=some cs):aN cs=true:=by
 induction l with
 | nil=>simp [de] at hk
 | cons x l ih=>
  obtain ⟨d,c⟩:=x
  simp only [List.all_cons,Bool.and_eq_true] at h
  rcases eu hk with ⟨_,rfl⟩ | ⟨_,hk⟩
  ·exact h.1
  ·exact ih h.2 hk
theorem mM.put {R:aj} {w:World} {β:Nat→Nat} {ae:aT} {a:Act} (h:mM R w β ae a.tmps) {d:Tmp} {x:SV} {c:Value} (hd:d < a.tmps.size) (hx:ou R w β x c) :
  mM R w β (.put d x :: ae) (a.put (some d) c).tmps:=by
 intro i hi
 by_cases e:d=i
 ·subst e
  rw [aw]
  exact ⟨c,by simp [Act.put,hd],hx⟩
 ·rw [aG e] at hi ⊢
  obtain ⟨c',h1,h2⟩:=h i hi
  refine ⟨c',?_,h2⟩
  simp only [Act.put]
  rw [Array.getElem?_setIfInBounds_ne e]
  exact h1
theorem aV.put {E:Env} {R:aj} {w:World} {β:Nat→Nat} {s:St} {a:Act} (h:aV E R w β s a) (dst:Option Tmp) {x:SV} {c:Value} (hx:ou R w β x c) :
  aV E R w β (s.put dst x) (a.put dst c):=by
 cases dst with
 | none=>exact h
 | some d=>
  simp only [St.put]
  cases hb:Nat.blt d s.n with
  | true=>
   have hd:d < a.tmps.size:=by rw [h.n]; exact Nat.le_of_ble_eq_true hb
   exact ⟨h.g,h.b,h.t.put hd hx,by simp [Act.put,h.n],h.d⟩
  | false=>
   have hd:¬ d < a.tmps.size:=by
    rw [h.n]
    intro bK
    have:Nat.blt d s.n=true:=Nat.ble_eq_true_of_le bK
    rw [this] at hb
    cases hb
   have he:a.put (some d) c=a:=by
    simp only [Act.put]
    rw [Array.setIfInBounds_eq_of_size_le (Nat.not_lt.1 hd)]
   rw [he]
   exact h
theorem pK {R:aj} {w:World} {v:Value} {a:AV} (h:pC v=some a):Rel R w a v∧v.oneCell'=true:=by
 unfold pC at h
 split at h <;> cases h
 ·exact ⟨.bool _,rfl⟩
 ·exact ⟨.int _ _,rfl⟩
 ·rename_i s
  exact ⟨.str s.data.toList,rfl⟩
 ·exact ⟨.iE,rfl⟩
 ·exact ⟨.lg,rfl⟩
 ·exact ⟨.jq,rfl⟩
 ·exact ⟨.dq,rfl⟩
 ·exact ⟨.oo,rfl⟩
theorem lT {R:aj} {w:World}:∀ {vs:List Value} {l:List AV},lh vs=some l→aE R w l vs∧∀ v∈vs,v.oneCell'=true
 | [],l,h=>by simp [lh] at h; subst h; exact ⟨.nil,by simp⟩
 | v :: vs,l,h=>by
  unfold lh at h
  split at h
  ·rename_i a r h1 h2
   cases h
   obtain ⟨k1,k2⟩:=pK (R:=R) (w:=w) h1
   obtain ⟨k3,k4⟩:=lT (R:=R) (w:=w) h2
   exact ⟨.cons k1 k3,by simp [k2]; exact k4⟩
  ·cases h
theorem rM {R:aj} {w:World} {v:Value} {a:AV} (h:pD v=some a):Rel R w a v:=by
 unfold pD at h
 split at h
 ·rename_i cs
  split at h
  ·rename_i l hl
   cases h
   obtain ⟨k1,k2⟩:=lT (R:=R) (w:=w) hl
   exact .agg (vs:=cs.toList) k1 k2
  ·cases h
 ·rename_i cs
  split at h
  ·rename_i l hl
   cases h
   obtain ⟨k1,_⟩:=lT (R:=R) (w:=w) hl
   exact .bi (vs:=cs.toList) k1
  ·cases h
 ·exact (pK h).1
theorem aI {E:Env} {R:aj} {w:World} {β:Nat→Nat} {s:St} {a:Act} (h:aV E R w β s a) (x:Operand):ou R w β (bc E s.ae x) (a.eval x):=by
 cases x with
 | tmp t=>
  simp only [bc,Act.eval]
  by_cases hn:lk s.ae t=.none
  ·rw [hn]; trivial
  ·obtain ⟨c,h1,h2⟩:=h.t t hn
   have:a.tmps.getD t undef=c:=by simp [Array.getD_eq_getD_getElem?,h1]
   rw [this]
   exact h2
 | const v=>
  simp only [bc,Act.eval]
  cases hc:pD v with
  | none=>trivial
  | some y=>exact rM hc
 | global g=>
  simp only [bc,Act.eval]
  cases hg:E.dC g with
  | none=>trivial
  | some cs=>exact Rel.ep (h.g.dC g cs hg).1
 | func f=>exact Rel.fn .nil .nil
end Go.Am
