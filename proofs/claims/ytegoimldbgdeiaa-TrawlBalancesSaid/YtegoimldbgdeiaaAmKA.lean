/- The abstract machine: its values,its state,and what each operation does (definitions alone). -/
import Derived.CallsIn
import Derived.RangeFuncLeaves
import Derived.Laws.AppendOwn
set_option linter.all false
namespace Go.Am
open Go
inductive LK where
 | nil | full | kr | own (id:Nat) | aU (id j:Nat)
inductive AV where
 | bool (b:Bool)
 | int (k:IntKind) (n:Int)
 | str (s:List UInt8)
 | agg (cs:List AV)
 | bk (vs:List AV)
 | li
 | ptr (id off:Nat)
 | ep (cs:List AV)
 | list (k:LK) (sz:Nat) (es:List AV)
 | iR (id off sz len cap:Nat)
 | dM (id f off sz len:Nat)
 | gp (id f i off sz:Nat) (t:TypeId)
 | jq
 | map (id:Nat)
 | dq
 | fn (f:FuncId) (first cap:List AV)
 | yield (id:Nat)
 | ot
 | iface (t:TypeId) (v:AV)
def LK.closed:LK→Bool
 | .own _=>false
 | .aU _ _=>false
 | _=>true
mutual
def AV.closed:AV→Bool
 | .agg cs=>aM cs
 | .bk cs=>aM cs
 | .ep cs=>aM cs
 | .list k _ _=>k.closed
 | .fn _ x y=>aM x&&aM y
 | .iface _ v=>v.closed
 | .ptr _ _=>false
 | .iR _ _ _ _ _=>false
 | .dM _ _ _ _ _=>false
 | .gp _ _ _ _ _ _=>false
 | .map _=>false
 | .yield _=>false
 | _=>true
def aM:List AV→Bool
 | []=>true
 | a :: l=>a.closed&&aM l
end
mutual
def AV.gf:AV→AV
 | .agg cs=>.agg (kC cs)
 | .bk cs=>.bk (kC cs)
 | .list (.own _) sz es=>.list .kr sz es
 | .list (.aU _ _) sz es=>.list .kr sz es
 | v=>v
def kC:List AV→List AV
 | []=>[]
 | a :: l=>a.gf :: kC l
end
inductive SV where
 | none
 | v (a:AV)
 | lp (key off:Nat)
inductive U5 where
 | put (d:Nat) (x:SV)
 | kill (d:Nat)
abbrev aT:=List U5
abbrev ck:=List (Nat × List AV)
def lk:aT→Nat→SV
 | [],_=>.none
 | .put d x :: l,t=>bif Nat.beq d t then x else lk l t
 | .kill d :: l,t=>match lk l t with
  | .lp k off=>bif Nat.beq k d then .none else .lp k off
  | x=>x
def de:ck→Nat→Option (List AV)
 | [],_=>none
 | (d,cs) :: l,k=>bif Nat.beq d k then some cs else de l k
inductive GO where
 | dead
 | row (cs:List AV) (el:TypeId)
 | tok (f sz:Nat) (e:TypeId)
 | aU (fs:List Nat) (sz:Nat) (e:TypeId)
 | gQ (oS n:Nat) (left:List Nat) (cur:Option Nat) (t:TypeId)
 | du (es:List AV) (sz:Nat) (el:TypeId)
 | map (es:List (AV × AV))
 | fV (s:List UInt8) (pos:Nat)
 | loop (busy:Bool) (pending:Option Code) (fn:FuncId) (ae:aT) (n:Nat) (params:List Tmp) (assign body:Code) (defers:Nat) (done:Bool)
 | defers (open_:Bool)
structure St where
 ae:aT
 boxes:ck
 G:List GO
 marks:List Nat
 ro:Option Nat
 n:Nat
def nth {α:Type}:List α→Nat→Option α
 | [],_=>none
 | a :: _,0=>some a
 | _ :: l,n+1=>nth l n
def ax {α:Type}:List α→Nat→α→List α
 | [],_,_=>[]
 | _ :: l,0,x=>x :: l
 | a :: l,n+1,x=>a :: ax l n x
def takeN {α:Type}:Nat→List α→Option (List α)
 | 0,_=>some []
 | _+1,[]=>none
 | n+1,a :: l=>match takeN n l with
  | some r=>some (a :: r)
  | none=>none
def fk {α:Type}:Nat→List α→List α
 | 0,l=>l
 | _+1,[]=>[]
 | n+1,_ :: l=>fk n l
def Ct {α:Type} (off n:Nat) (l:List α):Option (List α):=takeN n (fk off l)
def bI {α:Type}:List α→Nat→List α→List α
 | l,_,[]=>l
 | [],_,_ :: _=>[]
 | _ :: l,0,y :: ys=>y :: bI l 0 ys
 | a :: l,n+1,y :: ys=>a :: bI l n (y :: ys)
def AV.cells:AV→List AV
 | .agg cs=>cs
 | v=>[v]
def AV.one:AV→Bool
 | .agg _=>false
 | .bk _=>false
 | _=>true
def pC:Value→Option AV
 | .bool b=>some (.bool b)
 | .int k n=>some (.int k n)
 | .string s=>some (.str s.data.toList)
 | .slice none 0 0=>some (.list .nil 0 [])
 | .pointer none=>some .li
 | .map none=>some .jq
 | .nilFunc=>some .dq
 | .nilIface=>some .ot
 | _=>none
def lj:List Value→Option (List AV)
 | []=>some []
 | v :: vs=>match pC v,lj vs with
  | some a,some l=>some (a :: l)
  | _,_=>none
def pD:Value→Option AV
 | .agg cs=>match lj cs.toList with
  | some l=>some (.agg l)
  | none=>none
 | .tuple cs=>match lj cs.toList with
  | some l=>some (.bk l)
  | none=>none
 | v=>pC v
inductive TK where
 | sc
 | int (k:IntKind)
 | str
 | st (fs:List (Nat × Nat × Bool))
 | arr (len esz:Nat) (Ra:Bool)
 | sl (elem esz:Nat) (Ra:Bool) (a6:Nat) (Oh:Option AV)
 | map (key elem:TypeId) (Oh:Option AV)
mutual
inductive EK where
 | no
 | bool
 | int
 | str
 | st (fs:KI)
inductive KI where
 | nil
 | cons (off sz:Nat) (ag:Bool) (k:EK) (rest:KI)
end
structure TI where
 k:TK
 size:Nat
 agg:Bool
 zero:Option AV
 ek:EK
def iT:TypeDesc→Bool
 | .struct _=>true
 | .array _ _=>true
 | _=>false
def fieldsOf (P:Program):List Field→Option (List (Nat × Nat × Bool))
 | []=>some []
 | f :: fs=>match P.info? f.type,P.underlying f.type,fieldsOf P fs with
  | some i,some u,some l=>some ((f.offset,i.size,iT u) :: l)
  | _,_,_=>none
def fQ (i:TypeInfo):Option AV:=match i.zero with
 | some z=>pD z
 | none=>none
def ou (P:Program):TypeDesc→Option TK
 | .int k=>some (.int k)
 | .string=>some .str
 | .struct fs=>match fieldsOf P fs.toList with
  | some l=>some (.st l)
  | none=>none
 | .array n e=>match P.info? e,P.underlying e with
  | some i,some u=>some (.arr n i.size (iT u))
  | _,_=>none
 | .slice e=>match P.info? e,P.underlying e with
  | some i,some u=>some (.sl e i.size (iT u) i.bytes (fQ i))
  | _,_=>none
 | .map k e=>match P.info? e with
  | some i=>some (.map k e (fQ i))
  | none=>none
 | _=>some .sc
def AO (P:Program) (ek:TypeId→EK):List Field→Option KI
 | []=>some .nil
 | f :: fs => if f.name == "_" then none else match P.info? f.type, P.underlying f.type, AO P ek fs with
  | some i,some u,some l=>some (.cons f.offset i.size (iT u) (ek f.type) l)
  | _,_,_=>none
def tn (sz:Nat) (ag:Bool) (k:EK):Nat→Nat→KI
 | 0,_=>.nil
 | n+1,i=>.cons (i * sz) sz ag k (tn sz ag k n (i+1))
def ov (P:Program):Nat→TypeId→EK
 | 0,_=>.no
 | n+1,t=>match P.underlying t with
  | some .bool=>.bool
  | some (.int _)=>.int
  | some .string=>.str
  | some (.struct fs)=>if P.stoodInHeld t then .no else match AO P (ov P n) fs.toList with
   | some l=>.st l
   | none=>.no
  | some (.array m e)=>match P.info? e,P.underlying e with
   | some i,some u=>.st (tn i.size (iT u) (ov P n e) m 0)
   | _,_=>.no
  | _=>.no
def rO (P:Program) (t:TypeId):EK:=match ov P 6 t with
 | .st l=>if P.eqGuardType P.depth t then .no else .st l
 | k=>k
def Dq (P:Program) (t:TypeId):Option TI:=
 match P.info? t,P.underlying t with
 | some i,some u=>match ou P u with
  | some k=>some { k:=k,size:=i.size,agg:=iT u,zero:=fQ i,ek:=rO P t }
  | none=>none
 | _,_=>none
def vX:AV→AV→Bool
 | .bool a,.bool b=>a == b
 | .int k a,.int k' b=>(k == k')&&a == b
 | .str a,.str b=>a == b
 | .li,.li=>true
 | .ptr i o,.ptr i' o'=>Nat.beq i i'&&Nat.beq o o'
 | .jq,.jq=>true
 | .map i,.map i'=>Nat.beq i i'
 | .dq,.dq=>true
 | .ot,.ot=>true
 | .iR a b c d e,.iR a' b' c' d' e'=>Nat.beq a a'&&Nat.beq b b'&&Nat.beq c c'&&Nat.beq d d'&&Nat.beq e e'
 | .dM a b c d e,.dM a' b' c' d' e'=>Nat.beq a a'&&Nat.beq c c'&&Nat.beq d d'&&(Nat.beq b b'&&Nat.beq e e')
 | .gp a b c d e t,.gp a' b' c' d' e' t'=>Nat.beq a a'&&Nat.beq b b'&&Nat.beq c c'&&Nat.beq d d'&&Nat.beq e e'&&Nat.beq t t'
 | _,_=>false
mutual
def dx:AV→AV→Bool
 | .fn f x y,.fn f' x' y'=>Nat.beq f f'&&ea x x'&&ea y y'
 | .agg cs,.agg eO=>ea cs eO
 | .ep cs,.ep eO=>ea cs eO
 | .bk cs,.bk eO=>ea cs eO
 | .list .nil a es,.list .nil a' es'=>Nat.beq a a'&&ea es es'
 | .list .full a es,.list .full a' es'=>Nat.beq a a'&&ea es es'
 | .list .kr a es,.list .kr a' es'=>Nat.beq a a'&&ea es es'
 | .list (.own i) a es,.list (.own i') a' es'=>Nat.beq i i'&&Nat.beq a a'&&ea es es'
 | .list (.aU i j) a es,.list (.aU i' j') a' es'=>Nat.beq i i'&&Nat.beq j j'&&Nat.beq a a'&&ea es es'
 | a,b=>vX a b
def ea:List AV→List AV→Bool
 | [],[]=>true
 | a :: l,b :: r=>dx a b&&ea l r
 | _,_=>false
end
mutual
inductive ah
 | int (k:IntKind)
 | bool
 | str
 | agg (ps:aC)
 | bk (ps:aC)
 | list (sz:Nat) (p:ah)
 | own (id sz:Nat) (p:ah)
 | aU (id sz:Nat) (p:ah)
 | py (v:AV)
 | two (u v:AV)
inductive aC
 | nil
 | cons (p:ah) (ps:aC)
end
def Oi (s:Bool) (α β:Type):Type:=match s with
 | true=>α
 | false=>α × β
def aC.isNil:aC→Bool
 | .nil=>true
 | .cons _ _=>false
mutual
def ah.T:ah→Type
 | .int _=>Int
 | .bool=>Bool
 | .str=>List UInt8
 | .agg ps=>ps.T
 | .bk ps=>ps.T
 | .list _ p=>List p.T
 | .own _ _ p=>List p.T
 | .aU _ _ p=>Nat × List p.T
 | .py _=>Unit
 | .two _ _=>Bool
def aC.T:aC→Type
 | .nil=>Unit
 | .cons p ps=>Oi ps.isNil p.T ps.T
end
mutual
def ah.enc:(p:ah)→p.T→AV
 | .int k,(n:Int)=>.int k n
 | .bool,(b:Bool)=>.bool b
 | .str,(s:List UInt8)=>.str s
 | .agg ps,x=>.agg (ps.enc x)
 | .bk ps,x=>.bk (ps.enc x)
 | .list sz p,(xs:List p.T)=>.list .kr sz (xs.map p.enc)
 | .own id sz p,(xs:List p.T)=>.list (.own id) sz (xs.map p.enc)
 | .aU id sz p,(x:Nat × List p.T)=>.list (.aU id x.1) sz (x.2.map p.enc)
 | .py v,_=>v
 | .two u v,(b:Bool)=>bif b then v else u
def aC.enc:(ps:aC)→ps.T→List AV
 | .nil,_=>[]
 | .cons p .nil,x=>[p.enc x]
 | .cons p (.cons q ps),x=>p.enc x.1 :: (aC.cons q ps).enc x.2
end
def NG:IntKind→IntKind→Bool:=fun a b=>decide (a=b)
def AV.iT:AV→List AV
 | .agg cs=>cs
 | _=>[]
def AV.KJ:AV→List AV
 | .bk cs=>cs
 | _=>[]
def AV.dC:AV→List AV
 | .list _ _ es=>es
 | _=>[]
def AV.Rb:AV→Nat
 | .list (.aU _ j) _ _=>j
 | _=>0
def AV.oU:AV→Int
 | .int _ n=>n
 | _=>0
def AV.Oj:AV→Bool
 | .bool b=>b
 | _=>false
def AV.KK:AV→List UInt8
 | .str s=>s
 | _=>[]
def dN:List AV→AV
 | a :: _=>a
 | []=>.li
def EQ:List AV→List AV
 | _ :: l=>l
 | []=>[]
mutual
def ah.a7:(p:ah)→AV→p.T
 | .int _,v=>v.oU
 | .bool,v=>v.Oj
 | .str,v=>v.KK
 | .agg ps,v=>ps.a7 v.iT
 | .bk ps,v=>ps.a7 v.KJ
 | .list _ p,v=>v.dC.map p.a7
 | .own _ _ p,v=>v.dC.map p.a7
 | .aU _ _ p,v=>(v.Rb,v.dC.map p.a7)
 | .py _,_=>()
 | .two _ v,a=>dx a v
def aC.a7:(ps:aC)→List AV→ps.T
 | .nil,_=>()
 | .cons p .nil,l=>p.a7 (dN l)
 | .cons p (.cons q ps),l=>(p.a7 (dN l),(aC.cons q ps).a7 (EQ l))
end
def allFit (f:AV→Bool):List AV→Bool
 | []=>true
 | a :: l=>f a&&allFit f l
mutual
def ah.fits:ah→AV→Bool
 | .int k,v=>match v with
  | .int k' _=>NG k k'
  | _=>false
 | .bool,v=>match v with
  | .bool _=>true
  | _=>false
 | .str,v=>match v with
  | .str _=>true
  | _=>false
 | .agg ps,v=>match v with
  | .agg cs=>ps.fits cs
  | _=>false
 | .bk ps,v=>match v with
  | .bk cs=>ps.fits cs
  | _=>false
 | .list sz p,v=>match v with
  | .list _ bl es=>(Nat.beq sz bl || es.isEmpty)&&allFit p.fits es
  | _=>false
 | .own id sz p,v=>match v with
  | .list (.own iS) bl es=>(Nat.beq id iS&&Nat.beq sz bl)&&allFit p.fits es
  | _=>false
 | .aU id sz p,v=>match v with
  | .list (.aU iS _) bl es=>(Nat.beq id iS&&Nat.beq sz bl)&&allFit p.fits es
  | _=>false
 | .py v,u=>dx u v
 | .two u v,a=>dx a u || dx a v
def aC.fits:aC→List AV→Bool
 | .nil,l=>l.isEmpty
 | .cons p ps,l=>match l with
  | a :: l=>p.fits a&&ps.fits l
  | []=>false
end
def ah.dec (p:ah) (v:AV):Option p.T:=bif p.fits v then some (p.a7 v) else none
def aC.dec (ps:aC) (l:List AV):Option ps.T:=bif ps.fits l then some (ps.a7 l) else none
structure Env where
 P:Program
 ti:TypeId→Option TI
 dD:Nat→Option (List AV)
 vE:FuncId→Tmp→Bool
 HG:TypeId→Option ah
 lo:Nat:=0
 TG:FuncId→Tmp→List (Option Nat × Nat × TypeId):=fun _ _=>[]
 Qv:TypeId→Option ah:=fun _=>none
 gx:Nat→Bool:=fun _=>false
 Dr:∀ t i,ti t=some i→Dq P t=some i
 mixed:P.follows .mixedOrders=true
 xp:∀ g cs,dD g=some cs→aM cs=true
def bc (E:Env) (ae:aT):Operand→SV
 | .tmp t=>lk ae t
 | .const v=>match pD v with
  | some a=>.v a
  | none=>.none
 | .global g=>match E.dD g with
  | some cs=>.v (.ep cs)
  | none=>.none
 | .func f=>.v (.fn f [] [])
def St.put (s:St) (dst:Option Tmp) (x:SV):St:=match dst with
 | some d=>match Nat.blt d s.n with
  | true=>⟨.put d x :: s.ae,s.boxes,s.G,s.marks,s.ro,s.n⟩
  | false=>s
 | none=>s
def fD:AV:=.bk []
def qM (agg:Bool) (cs:List AV):Option AV:=
 if agg then some (.agg cs) else match cs with
  | [c]=>some c
  | _=>none
def lN (s:St):SV→Option (List AV × Nat)
 | .lp k off=>match de s.boxes k with
  | some cs=>some (cs,off)
  | none=>none
 | .v (.ptr id off)=>match nth s.G id with
  | some (.row cs _)=>some (cs,off)
  | _=>none
 | .v (.ep cs)=>some (cs,0)
 | _=>none
def vY (n:Nat):SV→Option SV
 | .lp k off=>some (.lp k (off+n))
 | .v (.ptr id off)=>some (.v (.ptr id (off+n)))
 | .v (.ep cs)=>some (.v (.ep (fk n cs)))
 | .v (.gp id f i off sz t)=>some (.v (.gp id f i (off+n) sz t))
 | _=>none
def xq (t:Bool):AV→AV→AV
 | .bool x,.bool y=>.bool (bif t then x else y)
 | .int k x,.int k' y=>if k=k' then .int k (bif t then x else y) else (bif t then .int k x else .int k' y)
 | a,b=>bif t then a else b
def Cu (ag:Bool) (off sz:Nat) (cs:List AV):Option AV:=
 if ag then (match Ct off sz cs with | some l=>qM true l | none=>none) else (match Ct off 1 cs with | some l=>qM false l | none=>none)
mutual
def kw:EK→AV→AV→Option Bool
 | .bool,.bool a,.bool b=>some (a == b)
 | .int,.int k a,.int k' b=>if k=k' then some (a == b) else none
 | .str,.str a,.str b=>some (a == b)
 | .st fs,.agg xs,.agg ys=>qN fs xs ys
 | _,_,_=>none
def qN:KI→List AV→List AV→Option Bool
 | .nil,_,_=>some true
 | .cons off sz ag k rest,xs,ys=>match Cu ag off sz xs,Cu ag off sz ys with
  | some a,some b=>match kw k a b,qN rest xs ys with
   | some t,some u=>some (t&&u)
   | _,_=>none
  | _,_=>none
end
def KL (k:IntKind) (a b:Int):Int:=k.wrap (BitVec.ofInt k.bits a &&& BitVec.ofInt k.bits b).toNat
def Rc (k:IntKind) (a b:Int):Int:=k.wrap (BitVec.ofInt k.bits a ||| BitVec.ofInt k.bits b).toNat
def KM (k:IntKind) (a b:Int):Int:=k.wrap (BitVec.ofInt k.bits a ^^^ BitVec.ofInt k.bits b).toNat
def yX (op:BinOp) (x y:AV):Option (Bool × AV):=
 match x,y with
 | .int k a,.int k' b=>
  match op with
  | .shl=>some (decide (0≤b),.int k (k.wrap (a * 2 ^ (min b.toNat k.bits))))
  | .shr=>some (decide (0≤b),.int k (a.fdiv (2 ^ (min b.toNat k.bits))))
  | _=>if k=k' then
    match op with
    | .add=>some (true,.int k (k.wrap (a+b)))
    | .sub=>some (true,.int k (k.wrap (a - b)))
    | .mul=>some (true,.int k (k.wrap (a * b)))
    | .quo=>some (!(decide (b=0)),.int k (k.wrap (a.tdiv b)))
    | .rem=>some (!(decide (b=0)),.int k (a.tmod b))
    | .and=>some (true,.int k (KL k a b))
    | .or=>some (true,.int k (Rc k a b))
    | .xor=>some (true,.int k (KM k a b))
    | .eql=>some (true,.bool (a == b))
    | .neq=>some (true,.bool (a != b))
    | .lss=>some (true,.bool (a < b))
    | .leq=>some (true,.bool (a≤b))
    | .gtr=>some (true,.bool (a > b))
    | .geq=>some (true,.bool (a≥b))
    | _=>none
   else none
 | .str a,.str b=>
  match op with
  | .add=>some (decide (a.length+b.length≤9223372036854775807),.str (a++b))
  | .eql=>some (true,.bool (a == b))
  | .neq=>some (true,.bool (!(a == b)))
  | .lss=>some (true,.bool (Op.bytesLess a b))
  | .leq=>some (true,.bool (Op.bytesLess a b || a == b))
  | .gtr=>some (true,.bool (!(Op.bytesLess a b || a == b)))
  | .geq=>some (true,.bool (!(Op.bytesLess a b)))
  | _=>none
 | _,_=>none
end Go.Am
namespace Go.Am
open Go
def St.kill (s:St) (d:Nat):St:=⟨.kill d :: s.ae,s.boxes,s.G,s.marks,s.ro,s.n⟩
def AV.aL:AV→Bool
 | .bk _=>false
 | _=>true
def St.dA (s:St) (o:GO):St:=⟨s.ae,s.boxes,s.G++[o],s.marks,s.ro,s.n⟩
def St.bF (s:St) (G:List GO):St:=⟨s.ae,s.boxes,G,s.marks,s.ro,s.n⟩
def St.sx (s:St) (d:Nat) (cs:List AV):St:=⟨s.ae,(d,cs) :: s.boxes,s.G,s.marks,s.ro,s.n⟩
def eP (E:Env) (f:FuncId) (s:St) (dst:Option Tmp) (el:TypeId) (cs:List AV):Option (Bool × St):=
 match dst with
 | none=>none
 | some d=>
  if E.vE f d then some (true,(s.dA (.row cs el)).put (some d) (.v (.ptr s.G.length 0)))
  else match Nat.blt d s.n with
   | true=>some (true,((s.kill d).sx d cs).put (some d) (.lp d 0))
   | false=>none
def kQ (E:Env) (ae:aT):List Operand→Option (List AV)
 | []=>some []
 | x :: l=>match bc E ae x,kQ E ae l with
  | .v a,some r=>some (a :: r)
  | _,_=>none
def Hl (E:Env) (ae:aT):List (Nat × Operand)→Option (List (Nat × AV))
 | []=>some []
 | (i,x) :: l=>match bc E ae x,Hl E ae l with
  | .v a,some r=>some ((i,a) :: r)
  | _,_=>none
def placeOf:TK→Nat→Option (Nat × Nat)
 | .st fs,j=>match nth fs j with
  | some (o,sz,_)=>some (o,sz)
  | none=>none
 | .arr _ esz _,j=>some (j * esz,esz)
 | _,_=>none
def rP (place:Nat→Option (Nat × Nat)) (cells:List AV):List (Nat × AV)→Option (List AV)
 | []=>some cells
 | (i,v) :: rest=>match place i with
  | none=>none
  | some (off,sz)=>
   if v.aL&&Nat.beq v.cells.length sz&&Nat.ble (off+sz) cells.length then rP place (bI cells off v.cells) rest else none
def yY (esz:Nat) (es:List AV):List (Nat × AV)→Option (List AV)
 | []=>some es
 | (i,v) :: rest=>
  if v.aL&&Nat.beq v.cells.length esz&&Nat.ble (i+1) es.length&&v.closed then yY esz (ax es i v) rest else none
def lO (E:Env) (s:St) (t:TypeId) (parts:List (Nat × Operand)):Option AV:=
 match E.ti t,Hl E s.ae parts with
 | some i,some ps=>match i.zero with
  | some z=>match rP (placeOf i.k) z.cells ps with
   | some cs=>if i.agg&&z.aL then some (.agg cs) else none
   | none=>none
  | none=>none
 | _,_=>none
def vZ:List (Nat × AV)→List (Nat × AV)
 | []=>[]
 | (i,v) :: l=>(i,v.gf) :: vZ l
def bH (E:Env) (s:St) (t:TypeId) (len:Nat) (parts:List (Nat × Operand)):Option AV:=
 match E.ti t,Hl E s.ae parts with
 | some i,some ps=>match i.k with
  | .sl _ esz _ _ (some z)=>
    if Nat.beq z.cells.length esz&&Nat.ble 1 esz&&Nat.ble (len * esz) 16777216&&z.aL&&z.closed then
     match yY esz (List.replicate len z) (vZ ps) with
     | some es=>some (.list .full esz es)
     | none=>none
    else none
  | _=>none
 | _,_=>none
def pE (E:Env) (s:St) (t:TypeId) (p:SV):Option AV:=
 match E.ti t,lN s p with
 | some i,some (cs,off)=>match Ct off i.size cs with
  | some l=>qM i.agg l
  | none=>none
 | _,_=>none
def iU (E:Env) (s:St) (t:TypeId) (p x:SV):Option St:=
 match E.ti t,x with
 | some i,.v v=>
  if v.aL&&Nat.beq v.cells.length i.size then
   match p with
   | .lp k off=>match de s.boxes k with
    | some cs=>if Nat.ble (off+v.cells.length) cs.length then some (s.sx k (bI cs off v.cells)) else none
    | none=>none
   | .v (.ptr id off)=>match nth s.G id with
    | some (.row cs el)=>if Nat.ble (off+v.cells.length) cs.length then some (s.bF (ax s.G id (.row (bI cs off v.cells) el))) else none
    | _=>none
   | _=>none
  else none
 | _,_=>none
def ak (es:List AV) (n:Nat):AV:=match nth es n with
 | some e=>e
 | none=>fD
def iA:List GO→Nat→TypeId→Nat→Option Nat
 | [],_,_,_=>none
 | .aU _ sz e :: G,bl,e',i=>match iA G bl e' (i+1) with
  | some j=>some j
  | none=>bif Nat.beq sz bl&&Nat.beq e e' then some i else none
 | _ :: G,bl,e',i=>iA G bl e' (i+1)
def ah.fin (G:List GO):ah→ah
 | .aU e sz p=>match iA G sz e 0 with
  | some id=>.aU id sz p
  | none=>.aU e sz p
 | .agg ps=>.agg (Ok ps)
 | p=>p
where
 Ok:aC→aC
  | .nil=>.nil
  | .cons p ps=>.cons (match p with
   | .aU e sz q=>match iA G sz e 0 with
    | some id=>.aU id sz q
    | none=>.aU e sz q
   | p=>p) (Ok ps)
def JD (E:Env) (G:List GO) (t:TypeId):Option ah:=match E.Qv t with
 | some p=>some (p.fin G)
 | none=>E.HG t
def to (E:Env) (s:St) (id f i sz:Nat) (t:TypeId):Option (Bool × AV):=match nth s.G id with
 | some (.du es bl _)=>match JD E s.G t with
  | some p=>if Nat.beq sz bl then some (decide (f=es.length)&&decide (i < es.length)&&p.fits (ak es i),p.enc (p.a7 (ak es i))) else none
  | none=>if Nat.beq sz bl then some (decide (f=es.length)&&decide (i < es.length),ak es i) else none
 | _=>none
def v7 (E:Env) (s:St) (t:TypeId) (p:SV):Option (Bool × AV):=match p with
 | .v (.gp id f i off sz ty)=>match E.ti t,to E s id f i sz ty with
  | some ti,some (c,v)=>match Ct off ti.size v.cells with
   | some l=>match qM ti.agg l with
    | some r=>some (c,r)
    | none=>none
   | none=>none
  | _,_=>none
 | p=>match pE E s t p with
  | some v=>some (true,v)
  | none=>none
def iV (E:Env) (s:St) (t:TypeId) (p x:SV):Option (Bool × St):=match p with
 | .v (.gp id f i off sz ty)=>match E.ti t,x,nth s.G id with
  | some ti,.v x,some (.du es bl el)=>
   if x.aL&&Nat.beq x.cells.length ti.size&&Nat.beq sz bl then
    if Nat.beq off 0&&Nat.beq ti.size sz then some (decide (f=es.length)&&decide (i < es.length),s.bF (ax s.G id (.du (ax es i x) bl el)))
    else match to E s id f i sz ty with
     | some (c,.agg cs)=>if Nat.ble (off+ti.size) cs.length&&Nat.beq cs.length sz then some (c,s.bF (ax s.G id (.du (ax es i (.agg (bI cs off x.cells))) bl el))) else none
     | _=>none
   else none
  | _,_,_=>none
 | p=>match iU E s t p x with
  | some s'=>some (true,s')
  | none=>none
def jL (E:Env) (t:TypeId) (x ix:SV):Option (Bool × SV):=
 match E.ti t,ix with
 | some i,.v (.int _ n)=>match i.k,x with
  | .sl _ esz _ _ _,.v (.list _ sz es)=>if Nat.beq sz esz || es.isEmpty then
    match E.HG t with
    | some p=>some (decide (0≤n∧n < es.length)&&p.fits (ak es n.toNat),.v (.ep (p.enc (p.a7 (ak es n.toNat))).cells))
    | none=>some (decide (0≤n∧n < es.length),.v (.ep (ak es n.toNat).cells))
   else none
  | .sl _ esz _ _ _,.v (.iR id off sz len _)=>if Nat.beq sz esz then some (decide (0≤n∧n < len),.v (.ptr id (off+n.toNat * sz))) else none
  | .sl _ esz _ _ _,.v (.dM id f off sz len)=>if Nat.beq sz esz then some (decide (0≤n∧n < len),.v (.gp id f (off+n.toNat) 0 sz t)) else none
  | .arr len esz _,.v (.ep cs)=>match E.HG t with
   | some p=>if Nat.beq esz 1&&Nat.ble len cs.length then some (decide (0≤n∧n < len)&&p.fits (ak cs n.toNat),.v (.ep [p.enc (p.a7 (ak cs n.toNat))])) else none
   | none=>some (decide (0≤n∧n < len),.v (.ep (fk (n.toNat * esz) cs)))
  | .arr len esz _,p=>match vY (n.toNat * esz) p with
   | some q=>some (decide (0≤n∧n < len),q)
   | none=>none
  | _,_=>none
 | _,_=>none
def jM (E:Env) (t:TypeId) (x:SV) (j:Nat):Option SV:=
 match E.ti t with
 | some i=>match i.k with
  | .st fs=>match nth fs j with
   | some (o,sz,_)=>if Nat.ble 1 sz then vY o x else none
   | none=>none
  | _=>none
 | none=>none
def AP (E:Env) (t:TypeId) (x:SV) (j:Nat):Option AV:=
 match E.ti t,x with
 | some i,.v (.agg cs)=>match i.k with
  | .st fs=>match nth fs j with
   | some (o,sz,ag)=>if ag then (match Ct o sz cs with | some l=>qM true l | none=>none) else (match Ct o 1 cs with | some l=>qM false l | none=>none)
   | none=>none
  | _=>none
 | _,_=>none
def AQ (E:Env) (t:TypeId) (x ix:SV):Option (Bool × AV):=
 match E.ti t,x,ix with
 | some i,.v (.str l),.v (.int _ n)=>match i.k with
  | .str=>some (decide (0≤n∧n < l.length),.int .u8 (l.getD n.toNat 0).toNat)
  | _=>none
 | some i,.v (.agg cs),.v (.int _ n)=>match i.k with
  | .arr len esz ag=>match (if ag then (match Ct (n.toNat * esz) esz cs with | some l=>qM true l | none=>none) else (match Ct (n.toNat * esz) 1 cs with | some l=>qM false l | none=>none)) with
   | some v=>some (decide (0≤n∧n < len),v)
   | none=>none
  | _=>none
 | _,_,_=>none
def xr (y:Nat):SV→Option (Bool × Nat)
 | .v (.int _ n)=>some (decide (0≤n∧n≤y),n.toNat)
 | _=>none
def oV {α:Type} (lo hi:Nat) (l:List α):List α:=(l.take hi).drop lo
def lP (E:Env) (ae:aT):Option Operand→Option (Option SV)
 | none=>some none
 | some x=>some (some (bc E ae x))
def AR (len:Nat) (lo hi:Option SV):Option (Bool × Nat × Nat):=
 match (match hi with | none=>some (true,len) | some h=>xr len h) with
 | none=>none
 | some (c1,h)=>match (match lo with | none=>some (true,0) | some l=>xr h l) with
  | none=>none
  | some (c2,l)=>some (c1&&c2,l,h)
def Ol (agg:Bool) (l:List AV):AV:=match agg with
 | true=>.agg l
 | false=>dN l
def gB (agg:Bool) (sz:Nat):Nat→List AV→List AV
 | 0,_=>[]
 | n+1,cs=>Ol agg (cs.take sz) :: gB agg sz n (cs.drop sz)
def AS (ag:Bool) (e:AV):Bool:=e.aL&&(ag || e.one)&&e.closed
def xu (E:Env) (t:TypeId) (x:SV) (lo hi:Option SV) (mx:Option Operand):Option (Bool × AV):=
 match E.ti t,mx with
 | some i,none=>match i.k,x with
  | .str,.v (.str l)=>match AR l.length lo hi with
   | some (c,a,b)=>some (c,.str (oV a b l))
   | none=>none
  | .sl _ esz _ _ _,.v (.list k sz es)=>
   if Nat.beq sz esz || es.isEmpty then
    match AR es.length lo hi with
    | some (c,a,b)=>some (c,.list (match k with | .nil=>.nil | .full=>(match hi with | none=>.full | some _=>.kr) | _=>.kr) esz (oV a b es))
    | none=>none
   else none
  | .sl _ esz _ _ _,.v (.iR id off sz len cap)=>
   if Nat.beq sz esz then
    match AR len lo hi with
    | some (c,a,b)=>some (c,.iR id (bif Nat.beq cap a then off else off+a * sz) sz (b - a) (cap - a))
    | none=>none
   else none
  | .sl _ esz _ _ _,.v (.dM id f off sz len)=>
   if Nat.beq sz esz then
    match AR len lo hi with
    | some (c,a,b)=>some (c,.dM id f (off+a) sz (b - a))
    | none=>none
   else none
  | .arr len esz ag,.v (.ep cs)=>match lo,hi with
   | none,none=>if Nat.ble (len * esz) cs.length&&Nat.ble 1 esz&&(ag || Nat.beq esz 1)&&allFit (AS ag) (gB ag esz len cs) then some (true,.list .full esz (gB ag esz len cs)) else none
   | _,_=>none
  | _,_=>none
 | _,_=>none
def ER (G:List GO) (id n:Nat) (f sz:Nat) (e:TypeId):List GO:=ax G id (.tok (f+n) sz e)
def Ds (fs:List Nat) (j n:Nat):List Nat:=bif Nat.beq j fs.length then fs++[n] else ax fs j n
def HH (fs:List Nat) (j n:Nat):Bool:=decide (nth fs j=some n) || (Nat.beq j fs.length&&Nat.beq n 0)
def eQ (G:List GO) (elem esz a6:Nat) (x:AV) (ys:List AV):Option (Bool × AV × List GO):=
 match x,ys with
 | .list k sz es,[]=>match k with
  | .nil=>some (true,.list .nil sz es,G)
  | k=>some (true,.list k sz es,G)
 | .list k sz es,y :: ys=>
  match k with
  | .nil=>some (decide ((es.length+(y :: ys).length) * a6≤140737488355328),.list (.own G.length) esz (es++(y :: ys)),G++[.tok (es.length+(y :: ys).length) esz elem])
  | .full=>if Nat.beq sz esz then some (decide ((es.length+(y :: ys).length) * a6≤140737488355328),.list (.own G.length) esz (es++(y :: ys)),G++[.tok (es.length+(y :: ys).length) esz elem]) else none
  | .own id=>match nth G id with
   | some (.tok f bl e')=>if Nat.beq bl esz&&Nat.beq e' elem&&Nat.beq sz esz then
     some (decide (f=es.length)&&decide ((es.length+(y :: ys).length) * a6≤140737488355328),.list (.own id) esz (es++(y :: ys)),ER G id (y :: ys).length f esz elem) else none
   | _=>none
  | .aU id j=>match nth G id with
   | some (.aU fs bl e')=>if Nat.beq bl esz&&Nat.beq e' elem&&Nat.beq sz esz then
     some (HH fs j es.length&&decide ((es.length+(y :: ys).length) * a6≤140737488355328),.list (.aU id j) esz (es++(y :: ys)),ax G id (.aU (Ds fs j (es.length+(y :: ys).length)) esz elem)) else none
   | _=>none
  | .kr=>none
 | .dM id f off sz len,[]=>some (true,.dM id f off sz len,G)
 | .dM id f off sz len,y :: ys=>match nth G id with
  | some (.du es bl e')=>if Nat.beq bl esz&&Nat.beq e' elem&&Nat.beq sz esz then
    some (decide (f=es.length)&&decide (off=0)&&decide (len=f)&&decide ((es.length+(y :: ys).length) * a6≤140737488355328),.dM id (es.length+(y :: ys).length) 0 esz (es.length+(y :: ys).length),ax G id (.du (es++(y :: ys)) esz elem)) else none
  | _=>none
 | _,_=>none
def pF (b:UInt8):AV:=.int .u8 b.toNat
def oW (es:List AV):List UInt8:=es.map fun a=>UInt8.ofNat a.oU.toNat
def tp (es:List AV):List UInt8:=es.flatMap fun a=>(Utf8.encode a.oU).data.toList
def Dt:AV→List AV→Option AV
 | x,[]=>some x
 | .int k x,.int k' y :: l=>if k=k' then Dt (.int k (if y > x then y else x)) l else none
 | _,_=>none
def AT:AV→List AV→Option AV
 | x,[]=>some x
 | .int k x,.int k' y :: l=>if k=k' then AT (.int k (if y < x then y else x)) l else none
 | .str x,.str y :: l=>AT (.str (bif Op.bytesLess x y || x == y then x else y)) l
 | _,_=>none
def ar:List AV→List AV
 | []=>[]
 | e :: es=>e.cells++ar es
def pG (s:St) (esz:Nat) (d x:AV):Option (Nat × List GO):=
 match d with
 | .iR id off sz len _=>match nth s.G id with
  | some (.row cs el)=>
   if Nat.beq sz esz then
    match x with
    | .list _ bl es=>if Nat.beq bl esz || es.isEmpty then
      let n:=Nat.min es.length len
      let l:=ar (es.take n)
      if Nat.ble (off+l.length) cs.length then some (n,ax s.G id (.row (bI cs off l) el)) else none
     else none
    | .str bs=>
      if Nat.beq esz 1&&Nat.ble (off+(bs.take (Nat.min bs.length len)).length) cs.length then some (Nat.min bs.length len,ax s.G id (.row (bI cs off ((bs.take (Nat.min bs.length len)).map pF)) el)) else none
    | .iR iS fE bl AU _=>match nth s.G iS with
     | some (.row eO _)=>
      let n:=Nat.min AU len
      match Ct fE (n * esz) eO with
      | some l=>if Nat.beq bl esz&&Nat.ble (off+l.length) cs.length then some (n,ax s.G id (.row (bI cs off l) el)) else none
      | none=>none
     | _=>none
    | _=>none
   else none
  | _=>none
 | .dM id f off sz len=>match nth s.G id,x with
  | some (.du es bl el),.list _ Rd xs=>if Nat.beq sz esz&&Nat.beq bl sz&&(Nat.beq Rd esz || xs.isEmpty)&&Nat.ble f es.length&&Nat.ble es.length f&&Nat.ble (off+Nat.min xs.length len) es.length then
    some (Nat.min xs.length len,ax s.G id (.du (bI es off (xs.take (Nat.min xs.length len))) bl el)) else none
  | _,_=>none
 | _=>none
def bw (E:Env) (s:St) (dst:Option Tmp) (b:Builtin) (args:List AV) (tys:List TypeId):Option (Bool × St):=
 match b,args with
 | .len,[x]=>match tys with
  | t :: _=>match E.ti t with
   | some i=>match i.k,x with
    | .str,.str l=>some (true,s.put dst (.v (.int .i64 l.length)))
    | .sl ..,.list _ _ es=>some (true,s.put dst (.v (.int .i64 es.length)))
    | .sl ..,.iR _ _ _ len _=>some (true,s.put dst (.v (.int .i64 len)))
    | .sl ..,.dM _ _ _ _ len=>some (true,s.put dst (.v (.int .i64 len)))
    | .arr n _ _,_=>some (true,s.put dst (.v (.int .i64 n)))
    | .map ..,.jq=>some (true,s.put dst (.v (.int .i64 0)))
    | .map ..,.map id=>match nth s.G id with
     | some (.map es)=>some (true,s.put dst (.v (.int .i64 es.length)))
     | _=>none
    | _,_=>none
   | none=>none
  | _=>none
 | .append,[x,.list _ sz ys]=>match tys with
  | [t,u]=>match E.ti t with
   | some i=>match i.k with
    | .sl elem esz _ a6 (some z)=>
     if (Nat.beq sz esz || ys.isEmpty)&&Nat.beq t u&&Nat.ble 1 esz&&Nat.ble 1 a6&&Nat.beq z.cells.length esz&&z.aL then
      match eQ s.G elem esz a6 x ys with
      | some (c,v,G')=>some (c,(s.bF G').put dst (.v v))
      | none=>none
     else none
    | _=>none
   | none=>none
  | _=>none
 | .append,[x,.str bs]=>match tys with
  | [t,u]=>match E.ti t,E.ti u with
   | some i,some j=>match i.k,j.k with
    | .sl elem esz _ a6 (some z),.str=>
     if Nat.beq esz 1&&Nat.ble 1 a6&&Nat.beq z.cells.length esz&&z.aL then
      match eQ s.G elem esz a6 x (bs.map pF) with
      | some (c,v,G')=>some (c,(s.bF G').put dst (.v v))
      | none=>none
     else none
    | _,_=>none
   | _,_=>none
  | _=>none
 | .append,[x,.dM id f 0 sz len]=>match nth s.G id,tys with
  | some (.du ys bl _),[t,u]=>match E.ti t with
   | some i=>match i.k with
    | .sl elem esz _ a6 (some z)=>
     if Nat.beq sz bl&&Nat.beq sz esz&&Nat.beq f ys.length&&Nat.beq len ys.length&&aM ys&&Nat.beq t u&&Nat.ble 1 esz&&Nat.ble 1 a6&&Nat.beq z.cells.length esz&&z.aL then
      match eQ s.G elem esz a6 x ys with
      | some (c,v,G')=>some (c,(s.bF G').put dst (.v v))
      | none=>none
     else none
    | _=>none
   | none=>none
  | _,_=>none
 | .copy,[d,x]=>match tys with
  | t :: _=>match E.ti t with
   | some i=>match i.k with
    | .sl _ esz _ _ _=>match pG s esz d x with
     | some (n,G')=>some (true,(s.bF G').put dst (.v (.int .i64 n)))
     | none=>none
    | _=>none
   | none=>none
  | _=>none
 | .clear,[x]=>match dst,tys,x with
  | none,[t],.dM id f off sz len=>match E.ti t,nth s.G id with
   | some i,some (.du es bl el)=>match i.k with
    | .sl elem esz _ _ (some z)=>if Nat.beq sz esz&&Nat.beq bl sz&&Nat.beq el elem&&Nat.beq z.cells.length esz&&z.aL&&z.closed then
      some (decide (f=es.length)&&decide (off+len≤es.length),s.bF (ax s.G id (.du (bI es off (List.replicate len z)) bl el))) else none
    | _=>none
   | _,_=>none
  | _,_,_=>none
 | .max,x :: l=>match Dt x l with
  | some v=>some (true,s.put dst (.v v))
  | none=>none
 | .min,x :: l=>match AT x l with
  | some v=>some (true,s.put dst (.v v))
  | none=>none
 | _,_=>none
def EK.plain:EK→Bool
 | .bool | .int | .str=>true
 | .st _=>true
 | _=>false
def EK.wide:EK→Bool
 | .st _=>true
 | _=>false
def sT:AV→Bool
 | .bool _=>true
 | .int _ _=>true
 | .str _=>true
 | _=>false
def pH:AV→AV→Bool
 | .bool a,.bool b=>a == b
 | .int k a,.int l b=>decide (k=l)&&a == b
 | .str a,.str b=>a == b
 | _,_=>false
def mM:List AV→List AV→Bool
 | [],[]=>true
 | a :: l,b :: r=>pH a b&&mM l r
 | _,_=>false
def lQ:AV→AV→Bool
 | .agg xs,.agg ys=>mM xs ys
 | _,_=>false
def AH (e:EK) (a b:AV):Option Bool:=match kw e a b with
 | some true=>bif e.wide&&!lQ a b then none else some true
 | r=>r
def hX (e:EK) (k:AV):List (AV × AV)→Option (Option AV)
 | []=>some none
 | (k',v) :: l=>match AH e k k' with
  | some true=>some (some v)
  | some false=>hX e k l
  | none=>none
def qO (e:EK) (k v:AV):List (AV × AV)→Option (List (AV × AV))
 | []=>some [(k,v)]
 | (k',v') :: l=>match AH e k k' with
  | some true=>some ((k,v) :: l)
  | some false=>match qO e k v l with
   | some r=>some ((k',v') :: r)
   | none=>none
  | none=>none
def gS:EK→AV→Bool
 | .bool,.bool _=>true
 | .int,.int _ _=>true
 | .str,.str _=>true
 | .st fs,.agg cs=>cs.all sT&&(qN fs cs cs).isSome
 | _,_=>false
def mapOf (s:St):SV→Option (List (AV × AV))
 | .v .jq=>some []
 | .v (.map id)=>match nth s.G id with
  | some (.map es)=>some es
  | _=>none
 | _=>none
def kR (G:List GO) (id:Nat):List Nat:=match nth G id with
 | some (.aU fs _ _)=>fs
 | _=>[]
def yZ (E:Env) (G:List GO) (t:TypeId) (z:AV):AV:=match E.Qv t,z with
 | some (.aU e sz _),.list .nil _ []=>match iA G sz e 0 with
  | some id=>.list (.aU id (kR G id).length) sz []
  | none=>z
 | _,_=>z
def iD (E:Env) (s:St) (t:TypeId) (m k:SV):Option (AV × Bool):=match E.ti t,mapOf s m,k with
 | some i,some es,.v k=>match i.k with
  | .map kt _ (some z)=>match E.ti kt with
   | some j=>if j.ek.plain&&gS j.ek k then match hX j.ek k es with
     | some (some v)=>some (v,true)
     | some none=>some (z,false)
     | none=>none
    else none
   | none=>none
  | _=>none
 | _,_,_=>none
def kD (E:Env) (s:St) (t:TypeId) (m k:SV):Option (AV × Bool):=match iD E s t m k with
 | some (v,false)=>some (yZ E s.G t v,false)
 | r=>r
def eR (E:Env) (s:St) (t:TypeId) (m k x:SV):Option St:=match E.ti t,m,k,x with
 | some i,.v (.map id),.v k,.v x=>match i.k,nth s.G id with
  | .map kt _ _,some (.map es)=>match E.ti kt with
   | some j=>if j.ek.plain&&gS j.ek k then match qO j.ek k x es with
     | some es'=>some (s.bF (ax s.G id (.map es')))
     | none=>none
    else none
   | none=>none
  | _,_=>none
 | _,_,_,_=>none
def bO (l:List UInt8) (pos:Nat):Nat × Nat:=
 bif Nat.blt (l.getD pos 0).toNat 128 then ((l.getD pos 0).toNat,1) else Utf8.decode ⟨⟨l⟩⟩ pos
def kE (s:St) (dst:Option Tmp) (x:SV):Option St:=match x with
 | .v (.ptr id 0)=>match nth s.G id with
  | some (.fV l pos)=>bif Nat.blt pos l.length then
    match bO l pos with
    | (c,n)=>some ((s.bF (ax s.G id (.fV l (pos+n)))).put dst (.v (.bk [.bool true,.int .i64 pos,.int .i32 c])))
   else some (s.put dst (.v (.bk [.bool false])))
  | _=>none
 | _=>none
def bD (es:List (AV × AV)) (i:Nat):AV × AV:=match nth es i with
 | some e=>e
 | none=>(fD,fD)
def KN (E:Env) (kt:TypeId):Option ah:=match E.HG kt with
 | some p=>some p
 | none=>match E.ti kt with
  | some i=>match i.k with
   | .int k=>some (.int k)
   | .str=>some .str
   | _=>none
  | none=>none
def pI (E:Env) (t:TypeId) (e:AV × AV):Bool × AV × AV:=match E.ti t with
 | some i=>match i.k with
  | .map kt _ _=>match E.HG t,KN E kt with
   | some pv,some pk=>(pk.fits e.1&&pv.fits e.2,pk.enc (pk.a7 e.1),pv.enc (pv.a7 e.2))
   | _,_=>(true,e.1,e.2)
  | _=>(true,e.1,e.2)
 | none=>(true,e.1,e.2)
def we (E:Env) (s:St) (dst:Option Tmp) (x:SV):Option (Bool × St × List Nat × (Nat→Bool × St)):=match x with
 | .v (.ptr id 0)=>match nth s.G id with
  | some (.gQ oS n left _ t)=>match nth s.G oS with
   | some (.map es)=>some (decide (es.length=n),s.put dst (.v (.bk [.bool false])),left,
     fun i=>((pI E t (bD es i)).1,(s.bF (ax s.G id (.gQ oS n (left.erase i) (some i) t))).put dst (.v (.bk [.bool true,(pI E t (bD es i)).2.1,(pI E t (bD es i)).2.2]))))
   | _=>none
  | _=>none
 | _=>none
def qP (E:Env) (s:St) (o:Oper):Option (Bool × St × List Nat × (Nat→Bool × St)):=match o.op with
 | .next x false=>we E s o.dst (bc E s.ae x)
 | _=>none
def HI:AV→Option Bool
 | .list .nil _ _=>some true
 | .list .full _ _=>some false
 | .list _ _ (_ :: _)=>some false
 | .iR _ _ _ _ _=>some false
 | .dM _ _ _ _ (_+1)=>some false
 | .li=>some true
 | .ptr _ _=>some false
 | .ep _=>some false
 | _=>none
def AW:AV→Option Bool
 | .list .nil _ []=>some true
 | .li=>some false
 | _=>none
def KO (P:Program) (t:TypeId):Bool:=match P.underlying t with
 | some (.slice _)=>true
 | _=>false
def KP (P:Program) (t:TypeId):Bool:=match P.underlying t with
 | some (.pointer _)=>true
 | _=>false
def Qw:AV→Bool
 | .list _ _ _=>true
 | .iR _ _ _ _ _=>true
 | .dM _ _ _ _ _=>true
 | _=>false
def rQ (P:Program) (t:TypeId) (a b:AV):Bool:=match AW b with
 | some true=>Qw a&&KO P t
 | some false=>!Qw a&&KP P t
 | none=>false
def KQ (E:Env) (op:BinOp) (t:TypeId) (a b:AV):Option Bool:=match op,HI a with
 | .eql,some r=>bif rQ E.P t a b then some r else none
 | .neq,some r=>bif rQ E.P t a b then some (!r) else none
 | _,_=>none
def Re (E:Env) (op:BinOp) (t:TypeId) (a b:AV):Option Bool:=match op,E.ti t with
 | .eql,some i=>kw i.ek a b
 | .neq,some i=>match kw i.ek a b with
  | some r=>some (!r)
  | none=>none
 | _,_=>none
def jr (E:Env) (s:St) (t:TypeId) (len:Nat) (parts:List (Nat × Operand)):Option (List AV):=
 match E.ti t,Hl E s.ae parts with
 | some i,some ps=>match i.k with
  | .sl _ esz _ _ (some z)=>
    if Nat.beq z.cells.length esz&&Nat.ble 1 esz&&Nat.ble (len * esz) 16777216&&z.aL then
     rP (fun i=>some (i * esz,esz)) (ar (List.replicate len z)) (vZ ps)
    else none
  | _=>none
 | _,_=>none
def iE (E:Env) (f:FuncId) (s:St) (o:Oper):Option St:=match o.op with
 | .buildSlice t len parts=>match o.dst with
  | some d=>if E.vE f d then match E.ti t with
    | some i=>match i.k,bH E s t len parts.toList with
     | .sl elem _ _ _ _,some (.list _ esz es)=>some ((s.dA (.row (ar es) elem)).put (some d) (.v (.iR s.G.length 0 esz len len)))
     | .sl elem esz _ _ _,none=>match jr E s t len parts.toList with
      | some cs=>some ((s.dA (.row cs elem)).put (some d) (.v (.iR s.G.length 0 esz len len)))
      | none=>none
     | _,_=>none
    | none=>none
   else if E.vE f (d+196608) then match E.ti t with
    | some i=>match i.k,bH E s t len parts.toList with
     | .sl elem _ _ _ _,some (.list _ esz es)=>if Nat.ble len 65536 then some ((s.dA (.du es esz elem)).put (some d) (.v (.dM s.G.length len 0 esz len))) else none
     | _,_=>none
    | none=>none
   else if E.vE f (d+65536) then match E.ti t with
    | some i=>match i.k,bH E s t len parts.toList with
     | .sl elem _ _ _ _,some (.list _ esz es)=>if Nat.ble len 65536 then some ((s.dA (.tok len esz elem)).put (some d) (.v (.list (.own s.G.length) esz es))) else none
     | _,_=>none
    | none=>none
   else none
  | none=>none
 | _=>none
def wg (wk:Bool) (es:List AV):List AV:=match wk with
 | true=>es.map AV.gf
 | false=>es
def ll (wk:Bool):List AV→List GO→Bool × List AV × List GO
 | [],G=>(true,[],G)
 | .dM id f 0 sz len :: l,G=>match nth G id with
  | some (.du es bl _)=>match ll wk l (ax G id .dead) with
   | (c,r,G')=>(decide (f=es.length)&&decide (len=es.length)&&Nat.beq sz bl&&aM (wg wk es)&&c,.list .kr sz (wg wk es) :: r,G')
  | _=>match ll wk l G with
   | (_,r,G')=>(false,r,G')
 | a :: l,G=>match ll wk l G with
  | (c,r,G')=>(c,a :: r,G')
def lR (cut wk:Bool) (s:St) (t:Tmp):Option (Bool × St):=match lk s.ae t with
 | .v (.dM id f off sz len)=>match nth s.G id with
  | some (.du es bl _)=>if Nat.beq off 0&&Nat.beq sz bl then
    some (decide (f=es.length)&&(bif cut then decide (len≤es.length) else decide (len=es.length))&&aM (wg wk es),⟨.put t (.v (.list .kr sz (wg wk (bif cut then es.take len else es)))) :: s.ae,s.boxes,ax s.G id .dead,s.marks,s.ro,s.n⟩) else none
  | _=>none
 | .v (.ptr id 0)=>match nth s.G id with
  | some (.row cs _)=>some (aM cs,⟨.put t (.v (.ep cs)) :: s.ae,s.boxes,ax s.G id .dead,s.marks,s.ro,s.n⟩)
  | _=>none
 | .v (.agg cs)=>match ll wk cs s.G with
  | (c,eO,G')=>some (c,⟨.put t (.v (.agg eO)) :: s.ae,s.boxes,G',s.marks,s.ro,s.n⟩)
 | _=>none
def gv (cut wk:Bool):List Operand→St→Bool × St
 | [],s=>(true,s)
 | .tmp t :: l,s=>match lR cut wk s t with
  | some (c,s')=>match gv cut wk l s' with
   | (c',s2)=>(c&&c',s2)
  | none=>gv cut wk l s
 | _ :: l,s=>gv cut wk l s
def Du (E:Env) (f:FuncId) (s:St) (o:Oper):Option (Bool × St):=match o.dst with
 | some d=>if E.vE f (d+262144) then some (gv (E.vE f (d+393216)) (E.vE f (d+458752)) o.op.operands.toList s) else none
 | none=>none
def lm (E:Env) (s:St) (a b:TypeId) (x:SV):Option (Bool × AV):=
 match E.ti a,E.ti b,x with
 | some i,some j,.v x=>match j.k,x with
  | .int k,.int _ n=>some (true,.int k (k.wrap n))
  | .str,.list _ sz es=>match i.k with
   | .sl elem 1 _ _ _=>match E.ti elem with
    | some e=>match e.k with
     | .int .u8=>some ((Nat.beq sz 1 || es.isEmpty)&&allFit (ah.fits (.int .u8)) es,.str (oW es))
     | .int .i32=>some ((Nat.beq sz 1 || es.isEmpty)&&allFit (ah.fits (.int .i32)) es,.str (tp es))
     | _=>none
    | none=>none
   | _=>none
  | .str,.iR id off 1 len _=>match i.k,nth s.G id with
   | .sl elem 1 _ _ _,some (.row cs _)=>match E.ti elem with
    | some e=>match e.k with
     | .int .u8=>some (Nat.ble (off+len) cs.length&&allFit (ah.fits (.int .u8)) (oV off (off+len) cs),.str (oW (oV off (off+len) cs)))
     | _=>none
    | none=>none
   | _,_=>none
  | _,_=>none
 | _,_,_=>none
def Dv (id sz:Nat):List AV→List Nat→Option (List AV × List Nat)
 | [],fs=>some ([],fs)
 | .list .nil _ [] :: l,fs=>match Dv id sz l (fs++[0]) with
  | some (r,xw)=>some (.list (.aU id fs.length) sz [] :: r,xw)
  | none=>none
 | .list .full bl es :: l,fs=>if Nat.beq sz bl then match Dv id sz l (fs++[es.length]) with
   | some (r,xw)=>some (.list (.aU id fs.length) sz es :: r,xw)
   | none=>none
  else none
 | _ :: _,_=>none
def vB (e:EK) (k k':AV):Bool:=match AH e k k' with
 | some b=>b
 | none=>false
def b8 (e:EK) (k:AV):List (AV × AV)→Bool
 | []=>true
 | (k',_) :: l=>(AH e k k').isSome&&b8 e k l
def ef (e:EK) (k:AV):List (AV × AV)→Option AV
 | []=>none
 | (k',v) :: l=>bif vB e k k' then some v else ef e k l
def b9 (e:EK) (k v:AV):List (AV × AV)→List (AV × AV)
 | []=>[(k,v)]
 | (k',v') :: l=>bif vB e k k' then (k,v) :: l else (k',v') :: b9 e k v l
def aF (e:EK) (k z:AV) (es:List (AV × AV)):AV:=(ef e k es).getD z
def kS (e:EK) (k:AV):List (AV × AV)→Nat
 | []=>0
 | (k',_) :: l=>bif vB e k k' then 0 else kS e k l+1
def mN:List (AV × AV)→Nat→AV→List (AV × AV)
 | [],_,_=>[]
 | (k,_) :: l,0,x=>(k,x) :: l
 | e :: l,n+1,x=>e :: mN l n x
def qQ (E:Env) (s:St) (x:SV):Option (Bool × AV):=match x with
 | .v (.ptr id 0)=>match nth s.G id with
  | some (.gQ oS n _ (some i) t)=>match nth s.G oS with
   | some (.map es)=>some (decide (es.length=n)&&decide (i < n)&&(pI E t (bD es i)).1,.bk [(pI E t (bD es i)).2.1,(pI E t (bD es i)).2.2])
   | _=>none
  | _=>none
 | _=>none
def fR (E:Env) (s:St) (t:TypeId) (m k:SV):Option (Bool × AV × St):=match E.ti t,m,k with
 | some i,.v (.map id),.v k=>match i.k,nth s.G id with
  | .map kt _ (some z),some (.map es)=>match E.ti kt with
   | some j=>if j.ek.plain&&gS j.ek k then
     some (b8 j.ek k es,.bk [aF j.ek k z es,.int .i64 (kS j.ek k es:Nat)],s.bF (ax s.G id (.map (b9 j.ek k (aF j.ek k z es) es)))) else none
   | none=>none
  | _,_=>none
 | _,_,_=>none
def dO (s:St) (m st x:SV):Option (Bool × St):=match m,st,x with
 | .v (.map id),.v (.int .i64 n),.v v=>match nth s.G id with
  | some (.map es)=>some (decide (0≤n)&&decide (n.toNat < es.length),s.bF (ax s.G id (.map (mN es n.toNat v))))
  | _=>none
 | _,_,_=>none
def gi (E:Env) (f:FuncId) (s:St) (o:Oper):Option (Bool × St):=match o.dst with
 | some d=>if E.vE f (d+524288) then match o.op with
   | .call { callee:=.builtin .append,args,argTypes }=>match kQ E s.ae args.toList,argTypes.toList with
    | some [.dM id g off sz len,.list k TH (y :: ys)],[t,u]=>match E.ti t with
     | some i=>match i.k with
      | .sl elem esz _ a6 (some z)=>match E.ti elem with
       | some j=>match j.k with
        | .sl e2 JE _ _ _=>match iA s.G JE e2 0 with
         | some ks=>match Dv ks JE (y :: ys) (kR s.G ks),nth s.G id with
          | some (Dw,xw),some (.du es bl e')=>
           if Nat.beq TH esz&&Nat.beq bl esz&&Nat.beq e' elem&&Nat.beq sz esz&&Nat.beq t u&&Nat.ble 1 esz&&Nat.ble 1 a6&&Nat.beq z.cells.length esz&&z.aL then
            some (decide (g=es.length)&&decide (off=0)&&decide (len=g)&&decide ((es.length+(y :: ys).length) * a6≤140737488355328),
             (s.bF (ax (ax s.G ks (.aU xw JE e2)) id (.du (es++Dw) esz elem))).put o.dst (.v (.dM id (es.length+(y :: ys).length) 0 esz (es.length+(y :: ys).length))))
           else none
          | _,_=>none
         | none=>none
        | _=>none
       | none=>none
      | _=>none
     | none=>none
    | _,_=>none
   | _=>none
  else none
 | none=>none
def rR (E:Env) (f:FuncId) (s:St) (o:Oper):Option (Bool × St):=match o.dst with
 | some d=>if E.vE f (d+524288) then match o.op with
   | .lookup t m k ok=>match E.Qv t,E.ti t,bc E s.ae m,bc E s.ae k with
    | some (.aU e sz p),some i,.v (.map id),.v k=>match i.k,nth s.G id with
     | .map kt _ (some (.list .nil _ [])),some (.map es)=>match E.ti kt,iA s.G sz e 0 with
      | some j,some ks=>if j.ek.plain&&gS j.ek k then
        some (b8 j.ek k es&&(ah.aU ks sz p).fits (aF j.ek k (.list (.aU ks (kR s.G ks).length) sz []) es),
         (s.bF (ax s.G ks (.aU (kR s.G ks++[0]) sz e))).put o.dst (.v (if ok then .bk [(ah.aU ks sz p).enc ((ah.aU ks sz p).a7 (aF j.ek k (.list (.aU ks (kR s.G ks).length) sz []) es)),.bool (ef j.ek k es).isSome]
          else (ah.aU ks sz p).enc ((ah.aU ks sz p).a7 (aF j.ek k (.list (.aU ks (kR s.G ks).length) sz []) es)))))
       else none
      | _,_=>none
     | _,_=>none
    | _,_,_,_=>none
   | _=>none
  else none
 | none=>none
def Rf (E:Env) (f:FuncId) (d:Option Tmp):Bool:=match d with
 | some d=>E.vE f (d+196608)
 | none=>false
def an (E:Env) (f:FuncId) (s:St) (o:Oper):Option (Bool × St):=
 match o.op with
 | .move x=>match bc E s.ae x with
  | .v a=>some (true,s.put o.dst (.v a))
  | .lp k off=>some (true,s.put o.dst (.lp k off))
  | .none=>some (true,s.put o.dst .none)
 | .assign x=>match bc E s.ae x with
  | .v a=>some (true,s.put o.dst (.v a))
  | .lp k off=>some (true,s.put o.dst (.lp k off))
  | .none=>some (true,s.put o.dst .none)
 | .pick c a b=>match bc E s.ae c,bc E s.ae a,bc E s.ae b with
  | .v (.bool t),.v x,.v y=>some (true,s.put o.dst (.v (xq t x y)))
  | _,_,_=>none
 | .alloc e=>match E.ti e with
  | some i=>match i.zero with
   | some z=>if z.aL then eP E f s o.dst e z.cells else none
   | none=>none
  | none=>none
 | .box t x=>match bc E s.ae x with
  | .v v=>if v.aL then eP E f s o.dst t v.cells else none
  | _=>none
 | .build t parts=>match lO E s t parts.toList with
  | some v=>some (true,s.put o.dst (.v v))
  | none=>none
 | .buildSlice t len parts=>match bH E s t len parts.toList with
  | some v=>some (true,s.put o.dst (.v v))
  | none=>none
 | .load t a=>match v7 E s t (bc E s.ae a) with
  | some (c,v)=>some (c,s.put o.dst (.v v))
  | none=>none
 | .store t a x=>match o.dst,iV E s t (bc E s.ae a) (bc E s.ae x) with
  | none,some (c,s')=>some (c,s')
  | _,_=>none
 | .binOp op t x y _=>match bc E s.ae x,bc E s.ae y with
  | .v a,.v b=>match yX op a b with
   | some (c,v)=>some (c,s.put o.dst (.v v))
   | none=>match Re E op t a b with
    | some r=>some (true,s.put o.dst (.v (.bool r)))
    | none=>match KQ E op t a b with
     | some r=>some (true,s.put o.dst (.v (.bool r)))
     | none=>none
  | _,_=>none
 | .unOp op _ x=>match op,bc E s.ae x with
  | .not,.v (.bool b)=>some (true,s.put o.dst (.v (.bool (!b))))
  | .neg,.v (.int k n)=>some (true,s.put o.dst (.v (.int k (k.wrap (0 - n)))))
  | _,_=>none
 | .convert a b x=>match lm E s a b (bc E s.ae x) with
  | some (c,v)=>some (c,s.put o.dst (.v v))
  | none=>none
 | .nilCheck x=>match bc E s.ae x with
  | .v (.ptr id off)=>some (true,s.put o.dst (.v (.ptr id off)))
  | .lp k off=>some (true,s.put o.dst (.lp k off))
  | _=>none
 | .makeFunc (.func g) first captured=>match kQ E s.ae first.toList,kQ E s.ae captured.toList with
  | some x,some y=>some (true,s.put o.dst (.v (.fn g x y)))
  | _,_=>none
 | .fieldAddr t x j=>match jM E t (bc E s.ae x) j with
  | some p=>some (true,s.put o.dst p)
  | none=>none
 | .field t x j=>match AP E t (bc E s.ae x) j with
  | some v=>some (true,s.put o.dst (.v v))
  | none=>none
 | .indexAddr t x ix=>match jL E t (bc E s.ae x) (bc E s.ae ix) with
  | some (c,p)=>some (c,s.put o.dst p)
  | none=>none
 | .index t x ix=>match AQ E t (bc E s.ae x) (bc E s.ae ix) with
  | some (c,v)=>some (c,s.put o.dst (.v v))
  | none=>none
 | .slice t x lo hi mx=>match lP E s.ae lo,lP E s.ae hi with
  | some l,some h=>match xu E t (bc E s.ae x) l h mx with
   | some (c,v)=>some (c,s.put o.dst (.v v))
   | none=>none
  | _,_=>none
 | .extract x i=>match bc E s.ae x with
  | .v (.bk vs)=>match nth vs i with
   | some v=>some (true,s.put o.dst (.v v))
   | none=>none
  | _=>none
 | .makeSlice t l c=>match E.ti t,bc E s.ae l,bc E s.ae c with
  | some i,.v (.int _ n),.v (.int _ m)=>match i.k with
   | .sl elem esz _ a6 (some z)=>
    if Nat.beq z.cells.length esz&&Nat.ble 1 esz&&z.aL then
     if Rf E f o.dst then (if z.closed then some (decide (0≤n∧n≤m∧m≤140737488355328∧m * a6≤140737488355328),
      (s.dA (.du (List.replicate n.toNat z) esz elem)).put o.dst (.v (.dM s.G.length n.toNat 0 esz n.toNat))) else none)
     else some (decide (0≤n∧n≤m∧m≤140737488355328∧m * a6≤140737488355328),
      (s.dA (.row (ar (List.replicate m.toNat z)) elem)).put o.dst (.v (.iR s.G.length 0 esz n.toNat m.toNat)))
    else none
   | _=>none
  | _,_,_=>none
 | .lookup t m k ok=>match kD E s t (bc E s.ae m) (bc E s.ae k) with
  | some (v,b)=>some (true,s.put o.dst (.v (if ok then .bk [v,.bool b] else v)))
  | none=>none
 | .mapUpdate t m k x=>match o.dst,eR E s t (bc E s.ae m) (bc E s.ae k) (bc E s.ae x) with
  | none,some s'=>some (true,s')
  | _,_=>none
 | .insert t m k x=>match o.dst,eR E s t (bc E s.ae m) (bc E s.ae k) (bc E s.ae x) with
  | none,some s'=>some (true,s')
  | _,_=>none
 | .entry x=>match qQ E s (bc E s.ae x) with
  | some (c,v)=>some (c,s.put o.dst (.v v))
  | none=>none
 | .mapEntry t m k=>match fR E s t (bc E s.ae m) (bc E s.ae k) with
  | some (c,v,s')=>some (c,s'.put o.dst (.v v))
  | none=>none
 | .entryStore _ m st x=>match o.dst,dO s (bc E s.ae m) (bc E s.ae st) (bc E s.ae x) with
  | none,some (c,s')=>some (c,s')
  | _,_=>none
 | .range t x=>match E.ti t,bc E s.ae x with
  | some i,.v (.str l)=>match i.k with
   | .str=>some (true,(s.dA (.fV l 0)).put o.dst (.v (.ptr s.G.length 0)))
   | _=>none
  | some i,.v (.map id)=>match i.k,nth s.G id with
   | .map _ _ _,some (.map es)=>some (true,(s.dA (.gQ id es.length (List.range es.length) none t)).put o.dst (.v (.ptr s.G.length 0)))
   | _,_=>none
  | _,_=>none
 | .next x true=>match kE s o.dst (bc E s.ae x) with
  | some s'=>some (true,s')
  | none=>none
 | .makeMap _ none=>some (true,(s.dA (.map [])).put o.dst (.v (.map s.G.length)))
 | .call { callee:=.builtin b,args,argTypes }=>match gi E f s o with
  | some r=>some r
  | none=>match kQ E s.ae args.toList with
   | some l=>bw E s o.dst b l argTypes.toList
   | none=>none
 | _=>none
end Go.Am
namespace Go.Am
open Go
inductive TR where
 | bj
 | full (f:Nat)
 | tok (f b c:Nat)
inductive RO where
 | none
 | bj
 | bq (b:Nat)
 | tok (f b c:Nat)
 | aU (ts:List TR)
def RO.has:RO→Nat→Prop
 | .none,_=>False
 | .bj,_=>False
 | .bq b,x=>x=b
 | .tok _ b _,x=>x=b
 | .aU ts,x=>∃ j f c,nth ts j=some (.tok f x c)
def gT (sz:Nat) (es:List AV):Prop:=∀ e∈es,e.cells.length=sz∧e.aL=true∧e.closed=true
def dg (sz:Nat) (es:List AV):Prop:=∀ e∈es,e.cells.length=sz∧e.aL=true
theorem gT.g {sz:Nat} {es:List AV} (h:gT sz es):dg sz es:=fun e he=>⟨(h e he).1,(h e he).2.1⟩
structure aj where
 I:Nat→Nat→Prop
 obj:List RO
def JF (b o len cap:Nat):RO→Prop
 | .none=>True
 | .bj=>False
 | .bq _=>False
 | .tok f b' c'=>len≤f∧(len=f→b=b'∧o=0∧cap=c')
 | .aU _=>False
def HJ (b o len cap:Nat):TR→Prop
 | .bj=>False
 | .full f=>len≤f∧(len=f→cap=len)
 | .tok f b' c'=>len≤f∧(len=f→b=b'∧o=0∧cap=c')
def Om (b o len cap j:Nat):RO→Prop
 | .none=>True
 | .bj=>False
 | .bq _=>False
 | .tok _ _ _=>False
 | .aU ts=>∃ t,nth ts j=some t∧HJ b o len cap t
def qR:RO→Prop
 | .none=>True
 | .bj=>False
 | .bq _=>False
 | .tok _ _ _=>False
 | .aU _=>True
def lS:RO→Prop
 | .none=>True
 | .bj=>True
 | .bq _=>False
 | .tok f _ _=>1≤f
 | .aU _=>False
def Dx (b o f off sz cap:Nat):RO→Prop
 | .none=>True
 | .bj=>False
 | .bq _=>False
 | .tok f' b' c'=>f≤f'∧(f=f'→b=b'∧off+cap=c'∧(o=off * sz∨cap=0))
 | .aU _=>False
def ES (b o f i off sz:Nat):RO→Prop
 | .none=>True
 | .bj=>False
 | .bq _=>False
 | .tok f' b' _=>f≤f'∧(f=f'→b=b'∧o=i * sz+off)
 | .aU _=>False
def xx (R:aj) (k:LK) (b o len cap:Nat):Prop:=match k with
 | .nil=>False
 | .full=>cap=len
 | .kr=>True
 | .own id=>∃ ro,nth R.obj id=some ro∧JF b o len cap ro
 | .aU id j=>∃ ro,nth R.obj id=some ro∧Om b o len cap j ro
mutual
inductive Rel (R:aj) (w:World):AV→Value→Prop
 | bool (b:Bool):Rel R w (.bool b) (.bool b)
 | int (k:IntKind) (n:Int):Rel R w (.int k n) (.int k n)
 | str (l:List UInt8):Rel R w (.str l) (.string ⟨⟨l⟩⟩)
 | agg {cs:List AV} {vs:List Value} (h:aE R w cs vs) (h1:∀ v∈vs,v.oneCell'=true):Rel R w (.agg cs) (.agg ⟨vs⟩)
 | bk {cs:List AV} {vs:List Value} (h:aE R w cs vs):Rel R w (.bk cs) (.tuple ⟨vs⟩)
 | li:Rel R w .li (.pointer none)
 | ptr {id off b:Nat} (h:nth R.obj id=some (.bq b)):Rel R w (.ptr id off) (.pointer (some ⟨b,off,none⟩))
 | ep {cs:List AV} {b o:Nat} (h:eu R w b o cs):Rel R w (.ep cs) (.pointer (some ⟨b,o,none⟩))
 | iF {sz:Nat}:Rel R w (.list .nil sz []) (.slice none 0 0)
 | ib {sz:Nat}:Rel R w (.list .kr sz []) (.slice none 0 0)
 | lT {sz:Nat} {a:Addr}:Rel R w (.list .kr sz []) (.slice (some a) 0 0)
 | lU {id sz:Nat} {ro:RO} (h:nth R.obj id=some ro) (ho:lS ro):Rel R w (.list (.own id) sz []) (.slice none 0 0)
 | kT {id j sz:Nat} {ro:RO} (h:nth R.obj id=some ro) (ho:qR ro):Rel R w (.list (.aU id j) sz []) (.slice none 0 0)
 | list {k:LK} {sz:Nat} {es:List AV} {b o len cap:Nat} (h:gj R w b o sz es) (hl:len=es.length) (hc:len≤cap) (hk:xx R k b o len cap):Rel R w (.list k sz es) (.slice (some ⟨b,o,none⟩) len cap)
 | iR {id off sz len cap b:Nat} (h:nth R.obj id=some (.bq b)) (hc:len≤cap):Rel R w (.iR id off sz len cap) (.slice (some ⟨b,off,none⟩) len cap)
 | iW {id sz:Nat} {ro:RO} (h:nth R.obj id=some ro) (ho:lS ro):Rel R w (.dM id 0 0 sz 0) (.slice none 0 0)
 | dM {id f off sz len cap b o:Nat} {ro:RO} (h:nth R.obj id=some ro) (ho:Dx b o f off sz cap ro) (hc:len≤cap):Rel R w (.dM id f off sz len) (.slice (some ⟨b,o,none⟩) len cap)
 | gp {id f i off sz b o:Nat} {t:TypeId} {ro:RO} (h:nth R.obj id=some ro) (ho:ES b o f i off sz ro):Rel R w (.gp id f i off sz t) (.pointer (some ⟨b,o,none⟩))
 | jq:Rel R w .jq (.map none)
 | map {id b:Nat} (h:nth R.obj id=some (.bq b)):Rel R w (.map id) (.map (some b))
 | dq:Rel R w .dq .nilFunc
 | fn {f:FuncId} {xs ys:List AV} {vs us:List Value} (h:aE R w xs vs) (h':aE R w ys us):Rel R w (.fn f xs ys) (.func (.func f) ⟨vs⟩ ⟨us⟩)
 | yield {id b:Nat} (h:nth R.obj id=some (.bq b)):Rel R w (.yield id) (.func (.yield b) #[] #[])
 | ot:Rel R w .ot .nilIface
 | iface {t:TypeId} {v:AV} {c:Value} (h:Rel R w v c):Rel R w (.iface t v) (.iface t c)
inductive aE (R:aj) (w:World):List AV→List Value→Prop
 | nil:aE R w [] []
 | cons {a:AV} {c:Value} {l:List AV} {cs:List Value} (h:Rel R w a c) (t:aE R w l cs):aE R w (a :: l) (c :: cs)
inductive gj (R:aj) (w:World):Nat→Nat→Nat→List AV→Prop
 | nil {b o sz:Nat}:gj R w b o sz []
 | cons {b o sz:Nat} {e:AV} {es:List AV} (hl:e.cells.length=sz) (ht:e.aL=true) (hk:e.closed=true) (h:eu R w b o e.cells) (t:gj R w b (o+sz) sz es):gj R w b o sz (e :: es)
inductive eu (R:aj) (w:World):Nat→Nat→List AV→Prop
 | nil {b o:Nat}:eu R w b o []
 | cons {b o:Nat} {a:AV} {c:Value} {l:List AV} (hc:w.cell? ⟨b,o,none⟩=some c) (h1:c.oneCell'=true) (hi:R.I b o) (h:Rel R w a c) (t:eu R w b (o+1) l):eu R w b o (a :: l)
end
def kU:TR→TR→Prop
 | .bj,.bj=>True
 | .bj,.full _=>False
 | .bj,.tok f _ _=>1≤f
 | .full _,.bj=>False
 | .full f,.full f'=>f'=f
 | .full f,.tok f' _ _=>f < f'
 | .tok _ _ _,.bj=>False
 | .tok _ _ _,.full _=>False
 | .tok f b c,.tok f' b' c'=>f≤f'∧(f'=f→b'=b∧c'=c)
theorem kU.refl (t:TR):kU t t:=by cases t <;> simp [kU]
theorem kU.trans {a b c:TR} (h:kU a b) (k:kU b c):kU a c:=by
 cases a <;> cases b <;> cases c <;> simp only [kU] at * <;> omega
def qS (ts NH:List TR):Prop:=∀ j t,nth ts j=some t→∃ t',nth NH j=some t'∧kU t t'
theorem qS.refl (ts:List TR):qS ts ts:=fun _ t h=>⟨t,h,kU.refl t⟩
theorem qS.trans {a b c:List TR} (h:qS a b) (k:qS b c):qS a c:=fun j t hj=>
 let ⟨_,h1,h2⟩:=h j t hj
 let ⟨t2,k1,k2⟩:=k j _ h1
 ⟨t2,k1,h2.trans k2⟩
def bZ:RO→RO→Prop
 | .none,r=>r=.none
 | .bq b,r=>r=.bq b
 | .bj,.none=>True
 | .bj,.bj=>True
 | .bj,.bq _=>False
 | .bj,.tok f _ _=>1≤f
 | .tok _ _ _,.none=>True
 | .tok _ _ _,.bj=>False
 | .tok _ _ _,.bq _=>False
 | .tok f b c,.tok f' b' c'=>f≤f'∧(f'=f→b'=b∧c'=c)
 | .bj,.aU _=>False
 | .tok _ _ _,.aU _=>False
 | .aU _,.none=>True
 | .aU _,.bj=>False
 | .aU _,.bq _=>False
 | .aU _,.tok _ _ _=>False
 | .aU ts,.aU NH=>qS ts NH
theorem bZ.refl (r:RO):bZ r r:=by cases r <;> simp [bZ,qS.refl]
theorem bZ.trans {a b c:RO} (h:bZ a b) (k:bZ b c):bZ a c:=by
 cases a with
 | none=>simp only [bZ] at h; subst h; exact k
 | bq x=>simp only [bZ] at h; subst h; exact k
 | bj=>
  cases b with
  | none=>simp only [bZ] at k; subst k; trivial
  | bj=>exact k
  | bq z=>exact h.elim
  | tok f' x' y'=>
   cases c with
   | none=>trivial
   | bj=>exact k.elim
   | bq z=>exact k.elim
   | aU _=>exact k.elim
   | tok f'' x'' y''=>simp only [bZ] at *; omega
  | aU _=>exact h.elim
 | tok f x y=>
  cases b with
  | none=>simp only [bZ] at k; subst k; trivial
  | bj=>exact h.elim
  | bq z=>exact h.elim
  | tok f' x' y'=>
   cases c with
   | none=>trivial
   | bj=>exact k.elim
   | bq z=>exact k.elim
   | tok f'' x'' y''=>
    simp only [bZ] at *
    refine ⟨Nat.le_trans h.1 k.1,fun e=>?_⟩
    obtain ⟨h1,h2⟩:=h; obtain ⟨k1,k2⟩:=k
    have e1:f'=f:=by omega
    have e2:f''=f':=by omega
    exact ⟨(k2 e2).1.trans (h2 e1).1,(k2 e2).2.trans (h2 e1).2⟩
   | aU _=>exact k.elim
  | aU _=>exact h.elim
 | aU ts=>
  cases b with
  | none=>simp only [bZ] at k; subst k; trivial
  | bj=>exact h.elim
  | bq z=>exact h.elim
  | tok f' x' y'=>exact h.elim
  | aU NH=>
   cases c with
   | none=>trivial
   | bj=>exact k.elim
   | bq z=>exact k.elim
   | tok f' x' y'=>exact k.elim
   | aU ts''=>exact qS.trans h k
def mO (r r':Loop):Prop:=r'.tmps=r.tmps∧r'.params=r.params∧r'.assign=r.assign∧r'.body=r.body∧r'.defers=r.defers
def fY (w w':World):Prop:=∀ (b:Nat) (r:Loop),w.heap[b]?=some (Obj.loop r)→∃ r',w'.heap[b]?=some (Obj.loop r')∧mO r r'
theorem fY.refl (w:World):fY w w:=fun _ r h=>⟨r,h,rfl,rfl,rfl,rfl,rfl⟩
theorem fY.trans {w w1 w2:World} (h:fY w w1) (k:fY w1 w2):fY w w2:=fun b r hb=>
 let ⟨_,h1,h2,h3,h4,h5,h6⟩:=h b r hb
 let ⟨r2,k1,k2,k3,k4,k5,k6⟩:=k b _ h1
 ⟨r2,k1,k2.trans h2,k3.trans h3,k4.trans h4,k5.trans h5,k6.trans h6⟩
theorem fY.old {w w':World} (h:∀ b,b < w.heap.size→w'.heap[b]?=w.heap[b]?):fY w w':=fun b r hb=>
 ⟨r,(h b (by
  rcases Nat.lt_or_ge b w.heap.size with bK | yL
  ·exact bK
  ·rw [Array.getElem?_eq_none yL] at hb; cases hb)).trans hb,rfl,rfl,rfl,rfl,rfl⟩
structure Ext (R:aj) (w:World) (R':aj) (w':World):Prop where
 I:∀ b o,R.I b o→R'.I b o
 cell:∀ b o,R.I b o→w'.cell? ⟨b,o,none⟩=w.cell? ⟨b,o,none⟩
 obj:∀ id ro,nth R.obj id=some ro→∃ lh,nth R'.obj id=some lh∧bZ ro lh
 lp:fY w w'
theorem Ext.refl (R:aj) (w:World):Ext R w R w:=⟨fun _ _ h=>h,fun _ _ _=>rfl,fun _ ro h=>⟨ro,h,bZ.refl ro⟩,fY.refl w⟩
theorem Ext.trans {R R' ET:aj} {w w' HK:World} (h:Ext R w R' w') (k:Ext R' w' ET HK):Ext R w ET HK:=
 ⟨fun b o hi=>k.I b o (h.I b o hi),fun b o hi=>(k.cell b o (h.I b o hi)).trans (h.cell b o hi),fun id ro hr=>
  let ⟨_,h1,h2⟩:=h.obj id ro hr
  let ⟨r2,h3,h4⟩:=k.obj id _ h1
  ⟨r2,h3,h2.trans h4⟩,h.lp.trans k.lp⟩
theorem Ext.bq {R R':aj} {w w':World} (h:Ext R w R' w') {id b:Nat} (hb:nth R.obj id=some (.bq b)):nth R'.obj id=some (.bq b):=by
 obtain ⟨r,h1,h2⟩:=h.obj id _ hb
 simp only [bZ] at h2
 subst h2
 exact h1
theorem xx.mono {R R':aj} {w w':World} (e:Ext R w R' w') {k:LK} {b o len cap:Nat} (h:xx R k b o len cap):xx R' k b o len cap:=by
 cases k with
 | nil=>exact h
 | full=>exact h
 | kr=>trivial
 | own id=>
  obtain ⟨ro,h1,h2⟩:=h
  obtain ⟨lh,h3,h4⟩:=e.obj id ro h1
  refine ⟨lh,h3,?_⟩
  cases ro with
  | none=>simp only [bZ] at h4; subst h4; trivial
  | bj=>exact h2.elim
  | bq x=>exact h2.elim
  | tok f x y=>
   cases lh with
   | none=>trivial
   | bj=>exact h4.elim
   | bq z=>exact h4.elim
   | tok f' x' y'=>
    simp only [bZ,JF] at *
    refine ⟨by omega,fun e=>?_⟩
    have e1:f'=f:=by omega
    have h5:=h2.2 (by omega)
    have h6:=h4.2 e1
    exact ⟨h5.1.trans h6.1.symm,h5.2.1,h5.2.2.trans h6.2.symm⟩
   | aU _=>exact h4.elim
  | aU _=>exact h2.elim
 | aU id j=>
  obtain ⟨ro,h1,h2⟩:=h
  obtain ⟨lh,h3,h4⟩:=e.obj id ro h1
  refine ⟨lh,h3,?_⟩
  cases ro with
  | none=>simp only [bZ] at h4; subst h4; trivial
  | bj=>exact h2.elim
  | bq x=>exact h2.elim
  | tok _ _ _=>exact h2.elim
  | aU ts=>
   cases lh with
   | none=>trivial
   | bj=>exact h4.elim
   | bq z=>exact h4.elim
   | tok _ _ _=>exact h4.elim
   | aU NH=>
    obtain ⟨t,k1,k2⟩:=h2
    obtain ⟨t',k3,k4⟩:=h4 j t k1
    refine ⟨t',k3,?_⟩
    cases t with
    | bj=>exact k2.elim
    | full f=>
     cases t' with
     | bj=>exact k4.elim
     | full f'=>simp only [kU,HJ] at *; subst k4; exact k2
     | tok f' x' y'=>simp only [kU,HJ] at *; exact ⟨by omega,fun e=>by omega⟩
    | tok f x y=>
     cases t' with
     | bj=>exact k4.elim
     | full f'=>exact k4.elim
     | tok f' x' y'=>
      simp only [kU,HJ] at *
      refine ⟨by omega,fun e=>?_⟩
      have e1:f'=f:=by omega
      have h5:=k2.2 (by omega)
      have h6:=k4.2 e1
      exact ⟨h5.1.trans h6.1.symm,h5.2.1,h5.2.2.trans h6.2.symm⟩
theorem lS.mono {ro lh:RO} (h:lS ro) (e:bZ ro lh):lS lh:=by
 cases ro with
 | none=>simp only [bZ] at e; subst e; trivial
 | bj=>cases lh <;> first | trivial | exact e.elim | exact e
 | bq _=>exact h.elim
 | tok f x y=>
  cases lh with
  | none=>trivial
  | bj=>exact e.elim
  | bq z=>exact e.elim
  | tok f' x' y'=>simp only [bZ,lS] at *; omega
  | aU _=>exact e.elim
 | aU _=>exact h.elim
theorem qR.mono {ro lh:RO} (h:qR ro) (e:bZ ro lh):qR lh:=by
 cases ro with
 | none=>simp only [bZ] at e; subst e; trivial
 | bj=>exact h.elim
 | bq _=>exact h.elim
 | tok _ _ _=>exact h.elim
 | aU ts=>
  cases lh with
  | none=>trivial
  | bj=>exact e.elim
  | bq z=>exact e.elim
  | tok _ _ _=>exact e.elim
  | aU NH=>trivial
theorem Dx.mono {b o f off sz cap:Nat} {ro lh:RO} (h:Dx b o f off sz cap ro) (e:bZ ro lh):Dx b o f off sz cap lh:=by
 cases ro with
 | none=>simp only [bZ] at e; subst e; trivial
 | bj=>exact h.elim
 | bq _=>exact h.elim
 | tok f1 x y=>
  cases lh with
  | none=>trivial
  | bj=>exact e.elim
  | bq z=>exact e.elim
  | tok f' x' y'=>
   simp only [bZ,Dx] at *
   refine ⟨by omega,fun k=>?_⟩
   obtain ⟨e1,e2⟩:=e.2 (by omega)
   obtain ⟨h1,h2,h3⟩:=h.2 (by omega)
   exact ⟨h1.trans e1.symm,h2.trans e2.symm,h3⟩
  | aU _=>exact e.elim
 | aU _=>exact h.elim
theorem ES.mono {b o f i off sz:Nat} {ro lh:RO} (h:ES b o f i off sz ro) (e:bZ ro lh):ES b o f i off sz lh:=by
 cases ro with
 | none=>simp only [bZ] at e; subst e; trivial
 | bj=>exact h.elim
 | bq _=>exact h.elim
 | tok f1 x y=>
  cases lh with
  | none=>trivial
  | bj=>exact e.elim
  | bq z=>exact e.elim
  | tok f' x' y'=>
   simp only [bZ,ES] at *
   refine ⟨by omega,fun k=>?_⟩
   obtain ⟨e1,e2⟩:=e.2 (by omega)
   obtain ⟨h1,h2⟩:=h.2 (by omega)
   exact ⟨h1.trans e1.symm,h2⟩
  | aU _=>exact e.elim
 | aU _=>exact h.elim
mutual
theorem Rel.mono {R R':aj} {w w':World} (e:Ext R w R' w'):∀ {a:AV} {c:Value},Rel R w a c→Rel R' w' a c
 | _,_,.bool b=>.bool b
 | _,_,.int k n=>.int k n
 | _,_,.str l=>.str l
 | _,_,.agg h h1=>.agg (h.mono e) h1
 | _,_,.bk h=>.bk (h.mono e)
 | _,_,.li=>.li
 | _,_,.ptr h=>.ptr (e.bq h)
 | _,_,.ep h=>.ep (h.mono e)
 | _,_,.iF=>.iF
 | _,_,.ib=>.ib
 | _,_,.lT=>.lT
 | _,_,.lU h ho=>let ⟨_,h3,h4⟩:=e.obj _ _ h; .lU h3 (ho.mono h4)
 | _,_,.kT h ho=>let ⟨_,h3,h4⟩:=e.obj _ _ h; .kT h3 (ho.mono h4)
 | _,_,.list h hl hc hk=>.list (h.mono e) hl hc (hk.mono e)
 | _,_,.iR h hc=>.iR (e.bq h) hc
 | _,_,.iW h ho=>let ⟨_,h3,h4⟩:=e.obj _ _ h; .iW h3 (ho.mono h4)
 | _,_,.dM h ho hc=>let ⟨_,h3,h4⟩:=e.obj _ _ h; .dM h3 (ho.mono h4) hc
 | _,_,.gp h ho=>let ⟨_,h3,h4⟩:=e.obj _ _ h; .gp h3 (ho.mono h4)
 | _,_,.jq=>.jq
 | _,_,.map h=>.map (e.bq h)
 | _,_,.dq=>.dq
 | _,_,.fn h h'=>.fn (h.mono e) (h'.mono e)
 | _,_,.yield h=>.yield (e.bq h)
 | _,_,.ot=>.ot
 | _,_,.iface h=>.iface (h.mono e)
theorem aE.mono {R R':aj} {w w':World} (e:Ext R w R' w'):∀ {l:List AV} {cs:List Value},aE R w l cs→aE R' w' l cs
 | _,_,.nil=>.nil
 | _,_,.cons h t=>.cons (h.mono e) (t.mono e)
theorem gj.mono {R R':aj} {w w':World} (e:Ext R w R' w'):∀ {b o sz:Nat} {l:List AV},gj R w b o sz l→gj R' w' b o sz l
 | _,_,_,_,.nil=>.nil
 | _,_,_,_,.cons hl ht hk h t=>.cons hl ht hk (h.mono e) (t.mono e)
theorem eu.mono {R R':aj} {w w':World} (e:Ext R w R' w'):∀ {b o:Nat} {l:List AV},eu R w b o l→eu R' w' b o l
 | _,_,_,.nil=>.nil
 | _,_,_,.cons hc h1 hi h t=>.cons ((e.cell _ _ hi).trans hc) h1 (e.I _ _ hi) (h.mono e) (t.mono e)
end
end Go.Am
namespace Go.Am
open Go
section lists
variable {α:Type}
theorem aR (l:List α) (n:Nat):nth l n=l[n]?:=by
 induction l generalizing n with
 | nil=>simp [nth]
 | cons a l ih=>cases n <;> simp [nth,ih]
theorem gw (l:List α) (n:Nat) (x:α):ax l n x=l.set n x:=by
 induction l generalizing n with
 | nil=>simp [ax]
 | cons a l ih=>cases n <;> simp [ax,ih]
theorem bp {l:List α} {n:Nat} {x:α} (h:nth l n=some x):n < l.length:=by
 rw [aR] at h
 exact (List.getElem?_eq_some_iff.1 h).1
theorem aB {l:List α} {n:Nat} {x y:α} (h:nth l n=some y):nth (ax l n x) n=some x:=by
 have:=bp h
 rw [aR,gw,List.getElem?_set_self this]
theorem bn {l:List α} {n m:Nat} {x:α} (h:n≠m):nth (ax l n x) m=nth l m:=by
 rw [aR,gw,aR,List.getElem?_set_ne h]
theorem cP {l:List α} {n m:Nat} {x y:α} (h:nth (ax l n x) m=some y):(n=m∧y=x∧m < l.length)∨(n≠m∧nth l m=some y):=by
 by_cases e:n=m
 ·subst e
  have hl:=bp h
  rw [gw,List.length_set] at hl
  rw [aR,gw,List.getElem?_set_self hl] at h
  exact .inl ⟨rfl,(Option.some.inj h).symm,hl⟩
 ·rw [bn e] at h
  exact .inr ⟨e,h⟩
@[simp] theorem gD (l:List α) (n:Nat) (x:α):(ax l n x).length=l.length:=by rw [gw,List.length_set]
theorem ey (l:List α) (x:α):nth (l++[x]) l.length=some x:=by rw [aR]; simp
theorem cQ {l:List α} {n:Nat} {y x:α} (h:nth l n=some y):nth (l++[x]) n=some y:=by
 have:=bp h
 rw [aR] at *
 rw [List.getElem?_append_left this]
 exact h
theorem au {l:List α} {n:Nat} {y x:α} (h:nth (l++[x]) n=some y):nth l n=some y∨(n=l.length∧y=x):=by
 rw [aR] at *
 by_cases e:n < l.length
 ·rw [List.getElem?_append_left e] at h; exact .inl h
 ·rw [List.getElem?_append_right (by omega)] at h
  have hl:=(List.getElem?_eq_some_iff.1 h).1
  simp at hl
  have:n - l.length=0:=by omega
  rw [this] at h
  simp at h
  exact .inr ⟨by omega,h.symm⟩
theorem mP:∀ {l:List α} {n:Nat} {x:α},nth l n=some x→ax l n x=l
 | [],_,_,h=>by cases h
 | a :: l,0,x,h=>by cases h; rfl
 | a :: l,n+1,x,h=>by
  show a :: ax l n x=a :: l
  rw [mP (show nth l n=some x from h)]
end lists
def KR (R:aj) (w:World) (On:aT→Array Value→Prop) (busy:Bool) (pending:Option Code) (ae:aT) (n:Nat) (params:List Tmp) (assign body:Code) (defers:Nat) (done:Bool) (b:Nat):Prop:=
 ∃ (r:Loop) (db:Nat),w.heap[b]?=some (.loop r)∧r.state=(if done then .done else if busy then .busy else .ready)∧r.pending=pending ∧
  On ae r.tmps∧r.tmps.size=n∧r.params=⟨params⟩∧r.assign=assign∧r.body=body∧r.defers=db∧nth R.obj defers=some (.bq db)
def ow (R:aj) (w:World) (β:Nat→Nat):SV→Value→Prop
 | .none,_=>True
 | .v a,c=>Rel R w a c
 | .lp k off,c=>c=.pointer (some ⟨β k,off,none⟩)
def mQ (R:aj) (w:World) (β:Nat→Nat) (ae:aT) (tmps:Array Value):Prop:=
 ∀ i,lk ae i≠.none→∃ c,tmps[i]?=some c∧ow R w β (lk ae i) c
def Cv:aT→Bool
 | []=>true
 | .put _ (.lp _ _) :: _=>false
 | _ :: l=>Cv l
def cU (R:aj) (w:World):List (AV × AV)→List MapEntry→Prop
 | [],[]=>True
 | (k,v) :: l,e :: es=>Rel R w k e.key∧Rel R w v e.val∧cU R w l es
 | _,_=>False
def wh (R:aj) (w:World) (sz:Nat) (e:TypeId) (f:Nat):TR→Prop
 | .bj=>f=0
 | .full f'=>f'=f
 | .tok f' b c=>f'=f∧∃ cur,w.heap[b]?=some (.cells cur e (0,0))∧f≤c∧c≤maxLen∧cur.size=c * sz∧∀ o,f * sz≤o→¬ R.I b o
def Oo (ts:List TR):Prop:=∀ i j f b c f' c',nth ts i=some (.tok f b c)→nth ts j=some (.tok f' b c')→i=j
def tq (R:aj) (w:World) (sz:Nat) (e:TypeId) (fs:List Nat) (ts:List TR):Prop:=
 ts.length=fs.length∧Oo ts∧∀ j f t,nth fs j=some f→nth ts j=some t→wh R w sz e f t
def iX (av:Array MapEntry) (clock:Nat):Prop:=clock=av.size∧∀ (i:Nat) (e:MapEntry),av.toList[i]?=some e→e.born=i
def Oq (R:aj) (w:World) (oS n:Nat) (left:List Nat) (cur:Option Nat) (b:Nat):Prop:=
 ∃ bm seen c0,nth R.obj oS=some (.bq bm)∧w.heap[b]?=some (.mapIter (some bm) n seen c0)∧(∀ i,i < n→(i∈left↔seen.contains i=false))∧(∀ i∈left,i < n)∧left.Nodup∧n≤c0∧∀ i,cur=some i→seen.back?=some i∧c0=n
def fZ (R:aj) (w:World):GO→RO→Prop
 | .dead,.none=>True
 | .dead,.bj=>True
 | .dead,.bq b=>b < w.heap.size
 | .dead,.tok _ b _=>b < w.heap.size
 | .dead,.aU ts=>∀ j f b c,nth ts j=some (.tok f b c)→b < w.heap.size
 | .aU fs sz e,.aU ts=>tq R w sz e fs ts
 | .gQ oS n left cur _,.bq b=>Oq R w oS n left cur b
 | .tok f _ _,.bj=>f=0
 | .row cs el,.bq b=>∃ vs,w.heap[b]?=some (.cells ⟨vs⟩ el (0,0))∧aE R w cs vs∧(∀ v∈vs,v.oneCell'=true)∧∀ o,¬ R.I b o
 | .tok f sz e,.tok f' b c=>f'=f∧∃ cur,w.heap[b]?=some (.cells cur e (0,0))∧f≤c∧c≤maxLen∧cur.size=c * sz∧∀ o,f * sz≤o→¬ R.I b o
 | .du es _ _,.bj=>es=[]
 | .du es sz e,.tok f b c=>f=es.length∧dg sz es∧∃ cur vs,w.heap[b]?=some (.cells cur e (0,0))∧f≤c∧c≤maxLen∧cur.size=c * sz∧(∀ o,¬ R.I b o)∧aE R w (ar es) vs∧(∀ v∈vs,v.oneCell'=true)∧cur.toList.take (f * sz)=vs
 | .map es,.bq b=>∃ av clock,w.heap[b]?=some (.map av clock)∧cU R w es av.toList∧iX av clock
 | .fV l pos,.bq b=>w.heap[b]?=some (.stringIter ⟨⟨l⟩⟩ pos)
 | .loop busy pending _ ae n params assign body defers done,.bq b=>KR R w (mQ R w (fun _=>0)) busy pending ae n params assign body defers done b∧Cv ae=true
 | .defers o,.bq b=>w.heap[b]?=some (.deferred (if o then some [] else none))
 | _,_=>False
def kV (E:Env) (R:aj) (w:World) (g:Nat) (cs:List AV):Prop:=
 eu R w g 0 cs∧(E.gx g=true→R.I g cs.length∧w.cell? ⟨g,cs.length,none⟩=none)
theorem kV.mono {E:Env} {R R':aj} {w w':World} {g:Nat} {cs:List AV} (h:kV E R w g cs) (e:Ext R w R' w'):kV E R' w' g cs:=
 ⟨h.1.mono e,fun hx=>⟨e.I _ _ (h.2 hx).1,(e.cell _ _ (h.2 hx).1).trans (h.2 hx).2⟩⟩
structure dP (E:Env) (R:aj) (w:World) (G:List GO):Prop where
 len:R.obj.length=G.length
 obj:∀ id go ro,nth G id=some go→nth R.obj id=some ro→fZ R w go ro
 inj:∀ i j ri rj b,nth R.obj i=some ri→nth R.obj j=some rj→ri.has b→rj.has b→i=j
 wf:∀ b o,R.I b o→b < w.heap.size
 dD:∀ g cs,E.dD g=some cs→kV E R w g cs
 lo:E.lo≤w.drawn
def Live (R:aj) (b:Nat):Prop:=∃ id ro,nth R.obj id=some ro∧ro.has b
structure HL (R:aj) (w:World) (β:Nat→Nat) (boxes:ck):Prop where
 box:∀ k cs,de boxes k=some cs→(∃ vs el,w.heap[β k]?=some (.cells ⟨vs⟩ el (0,0))∧aE R w cs vs∧(∀ v∈vs,v.oneCell'=true))∧(∀ o,¬ R.I (β k) o)∧¬ Live R (β k)
 inj:∀ k k' cs eO,de boxes k=some cs→de boxes k'=some eO→β k=β k'→k=k'
def ox (R:aj):List Nat→List Deferred→Prop
 | [],[]=>True
 | id :: l,d :: ds=>(∃ b,nth R.obj id=some (.bq b)∧d={ target:=.collected b,args:=#[] })∧ox R l ds
 | _,_=>False
structure aV (E:Env) (R:aj) (w:World) (β:Nat→Nat) (s:St) (a:Act):Prop where
 g:dP E R w s.G
 b:HL R w β s.boxes
 t:mQ R w β s.ae a.tmps
 n:a.tmps.size=s.n
 d:ox R s.marks a.defers
def Own (R:aj) (β:Nat→Nat) (boxes:ck) (b:Nat):Prop:=
 Live R b∨∃ k cs,de boxes k=some cs∧β k=b
structure Step (R:aj) (w:World) (β:Nat→Nat) (bx:ck) (R':aj) (w':World) (β':Nat→Nat) (EU:ck):Prop where
 ext:Ext R w R' w'
 os:w'.os=w.os
 tape:w'.tape=w.tape
 output:w'.output=w.output
 size:w.heap.size≤w'.heap.size
 aW:∀ b,b < w.heap.size→¬ Own R β bx b→w'.heap[b]?=w.heap[b]?
 own:∀ b,b < w.heap.size→Own R' β' EU b→Own R β bx b
 im:∀ b o,R'.I b o→b < w.heap.size→¬ Own R β bx b→R.I b o
theorem Step.refl (R:aj) (w:World) (β:Nat→Nat) (bx:ck):Step R w β bx R w β bx:=
 ⟨Ext.refl R w,rfl,rfl,rfl,Nat.le_refl _,fun _ _ _=>rfl,fun _ _ h=>h,fun _ _ h _ _=>h⟩
theorem Step.trans {R R1 R2:aj} {w w1 w2:World} {β β1 β2:Nat→Nat} {x x1 x2:ck}
  (h:Step R w β x R1 w1 β1 x1) (k:Step R1 w1 β1 x1 R2 w2 β2 x2):Step R w β x R2 w2 β2 x2 where
 ext:=h.ext.trans k.ext
 os:=k.os.trans h.os
 tape:=k.tape.trans h.tape
 output:=k.output.trans h.output
 size:=Nat.le_trans h.size k.size
 aW:=fun b hb hn=>(k.aW b (Nat.lt_of_lt_of_le hb h.size) (fun ho=>hn (h.own b hb ho))).trans (h.aW b hb hn)
 own:=fun b hb ho=>h.own b hb (k.own b (Nat.lt_of_lt_of_le hb h.size) ho)
 im:=fun b o hi hb hn=>h.im b o (k.im b o hi (Nat.lt_of_lt_of_le hb h.size) (fun ho=>hn (h.own b hb ho))) hb hn
theorem ow.mono {R R':aj} {w w':World} {β:Nat→Nat} (e:Ext R w R' w') {x:SV} {c:Value} (h:ow R w β x c):ow R' w' β x c:=by
 cases x with
 | none=>trivial
 | v a=>exact Rel.mono e h
 | lp k off=>exact h
theorem pJ (n:Nat):Nat.beq n n=true:=Nat.beq_refl n
theorem lV {n m:Nat} (h:n≠m):Nat.beq n m=false:=by
 cases hb:Nat.beq n m with
 | true=>exact absurd (Nat.eq_of_beq_eq_true hb) h
 | false=>rfl
theorem aw (l:aT) (d:Nat) (x:SV):lk (.put d x :: l) d=x:=by simp [lk]
theorem aG {l:aT} {d t:Nat} {x:SV} (h:d≠t):lk (.put d x :: l) t=lk l t:=by simp [lk,lV h]
theorem Cw {l:aT} {d t:Nat}:(lk (.kill d :: l) t=lk l t∧∀ k off,lk l t=.lp k off→k≠d)∨lk (.kill d :: l) t=.none:=by
 simp only [lk]
 cases h:lk l t with
 | none=>exact .inr rfl
 | v a=>exact .inl ⟨rfl,fun _ _ e=>by cases e⟩
 | lp k off=>
  by_cases hk:k=d
  ·subst hk
   exact .inr (by simp)
  ·exact .inl ⟨by simp [lV hk],fun k' fE e=>by cases e; exact hk⟩
theorem EV (l:ck) (d:Nat) (cs:List AV):de ((d,cs) :: l) d=some cs:=by simp [de]
theorem eA {l:ck} {d k:Nat} {cs eO:List AV} (h:de ((d,cs) :: l) k=some eO):(d=k∧eO=cs)∨(d≠k∧de l k=some eO):=by
 by_cases e:d=k
 ·subst e
  rw [EV] at h
  exact .inl ⟨rfl,(Option.some.inj h).symm⟩
 ·simp only [de,lV e,cond_false] at h
  exact .inr ⟨e,h⟩
theorem HM {l:ck} (h:l.all (fun p=>aM p.2)=true) {k:Nat} {cs:List AV} (hk:de l k=some cs):aM cs=true:=by
 induction l with
 | nil=>simp [de] at hk
 | cons x l ih=>
  obtain ⟨d,c⟩:=x
  simp only [List.all_cons,Bool.and_eq_true] at h
  rcases eA hk with ⟨_,rfl⟩ | ⟨_,hk⟩
  ·exact h.1
  ·exact ih h.2 hk
theorem mQ.put {R:aj} {w:World} {β:Nat→Nat} {ae:aT} {a:Act} (h:mQ R w β ae a.tmps) {d:Tmp} {x:SV} {c:Value} (hd:d < a.tmps.size) (hx:ow R w β x c) :
  mQ R w β (.put d x :: ae) (a.put (some d) c).tmps:=by
 intro i hi
 by_cases e:d=i
 ·subst e
  rw [aw]
  exact ⟨c,by simp [Act.put,hd],hx⟩
 ·rw [aG e] at hi ⊢
  obtain ⟨c',h1,h2⟩:=h i hi
  refine ⟨c',?_,h2⟩
  simp only [Act.put]
  rw [Array.getElem?_setIfInBounds_ne e]
  exact h1
theorem aV.put {E:Env} {R:aj} {w:World} {β:Nat→Nat} {s:St} {a:Act} (h:aV E R w β s a) (dst:Option Tmp) {x:SV} {c:Value} (hx:ow R w β x c) :
  aV E R w β (s.put dst x) (a.put dst c):=by
 cases dst with
 | none=>exact h
 | some d=>
  simp only [St.put]
  cases hb:Nat.blt d s.n with
  | true=>
   have hd:d < a.tmps.size:=by rw [h.n]; exact Nat.le_of_ble_eq_true hb
   exact ⟨h.g,h.b,h.t.put hd hx,by simp [Act.put,h.n],h.d⟩
  | false=>
   have hd:¬ d < a.tmps.size:=by
    rw [h.n]
    intro bK
    have:Nat.blt d s.n=true:=Nat.ble_eq_true_of_le bK
    rw [this] at hb
    cases hb
   have he:a.put (some d) c=a:=by
    simp only [Act.put]
    rw [Array.setIfInBounds_eq_of_size_le (Nat.not_lt.1 hd)]
   rw [he]
   exact h
theorem pK {R:aj} {w:World} {v:Value} {a:AV} (h:pC v=some a):Rel R w a v∧v.oneCell'=true:=by
 unfold pC at h
 split at h <;> cases h
 ·exact ⟨.bool _,rfl⟩
 ·exact ⟨.int _ _,rfl⟩
 ·rename_i s
  exact ⟨.str s.data.toList,rfl⟩
 ·exact ⟨.iF,rfl⟩
 ·exact ⟨.li,rfl⟩
 ·exact ⟨.jq,rfl⟩
 ·exact ⟨.dq,rfl⟩
 ·exact ⟨.ot,rfl⟩
theorem lW {R:aj} {w:World}:∀ {vs:List Value} {l:List AV},lj vs=some l→aE R w l vs∧∀ v∈vs,v.oneCell'=true
 | [],l,h=>by simp [lj] at h; subst h; exact ⟨.nil,by simp⟩
 | v :: vs,l,h=>by
  unfold lj at h
  split at h
  ·rename_i a r h1 h2
   cases h
   obtain ⟨k1,k2⟩:=pK (R:=R) (w:=w) h1
   obtain ⟨k3,k4⟩:=lW (R:=R) (w:=w) h2
   exact ⟨.cons k1 k3,by simp [k2]; exact k4⟩
  ·cases h
theorem rS {R:aj} {w:World} {v:Value} {a:AV} (h:pD v=some a):Rel R w a v:=by
 unfold pD at h
 split at h
 ·rename_i cs
  split at h
  ·rename_i l hl
   cases h
   obtain ⟨k1,k2⟩:=lW (R:=R) (w:=w) hl
   exact .agg (vs:=cs.toList) k1 k2
  ·cases h
 ·rename_i cs
  split at h
  ·rename_i l hl
   cases h
   obtain ⟨k1,_⟩:=lW (R:=R) (w:=w) hl
   exact .bk (vs:=cs.toList) k1
  ·cases h
 ·exact (pK h).1
theorem aI {E:Env} {R:aj} {w:World} {β:Nat→Nat} {s:St} {a:Act} (h:aV E R w β s a) (x:Operand):ow R w β (bc E s.ae x) (a.eval x):=by
 cases x with
 | tmp t=>
  simp only [bc,Act.eval]
  by_cases hn:lk s.ae t=.none
  ·rw [hn]; trivial
  ·obtain ⟨c,h1,h2⟩:=h.t t hn
   have:a.tmps.getD t undef=c:=by simp [Array.getD_eq_getD_getElem?,h1]
   rw [this]
   exact h2
 | const v=>
  simp only [bc,Act.eval]
  cases hc:pD v with
  | none=>trivial
  | some y=>exact rS hc
 | global g=>
  simp only [bc,Act.eval]
  cases hg:E.dD g with
  | none=>trivial
  | some cs=>exact Rel.ep (h.g.dD g cs hg).1
 | func f=>exact Rel.fn .nil .nil
end Go.Am
