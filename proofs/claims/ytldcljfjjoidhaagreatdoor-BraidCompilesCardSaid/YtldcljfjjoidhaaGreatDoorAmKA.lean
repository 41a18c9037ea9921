/- The abstract machine: its values,its state,and what each operation does (definitions alone). -/
import Derived.CallsIn
import Derived.RangeFuncLeaves
import Derived.Laws.AppendOwn
set_option linter.all false
namespace Go.Am
open Go
inductive LK where
 | nil | full | lQ | own (id:Nat) | bk (id j:Nat)
inductive AV where
 | bool (b:Bool)
 | int (k:IntKind) (n:Int)
 | str (s:List UInt8)
 | agg (cs:List AV)
 | bp (vs:List AV)
 | jd
 | ptr (id off:Nat)
 | ep (cs:List AV)
 | list (k:LK) (sz:Nat) (es:List AV)
 | kB (id off sz len cap:Nat)
 | dD (id f off sz len:Nat)
 | gp (id f i off sz:Nat) (t:TypeId)
 | kX
 | map (id:Nat)
 | cI
 | fn (f:FuncId) (first cap:List AV)
 | yield (id:Nat)
 | oN
 | iface (t:TypeId) (v:AV)
def LK.closed:LK→Bool
 | .own _=>false
 | .bk _ _=>false
 | _=>true
mutual
def AV.closed:AV→Bool
 | .agg cs=>bg cs
 | .bp cs=>bg cs
 | .ep cs=>bg cs
 | .list k _ _=>k.closed
 | .fn _ x y=>bg x&&bg y
 | .iface _ v=>v.closed
 | .ptr _ _=>false
 | .kB _ _ _ _ _=>false
 | .dD _ _ _ _ _=>false
 | .gp _ _ _ _ _ _=>false
 | .map _=>false
 | .yield _=>false
 | _=>true
def bg:List AV→Bool
 | []=>true
 | a :: l=>a.closed&&bg l
end
mutual
def AV.ia:AV→AV
 | .agg cs=>.agg (ma cs)
 | .bp cs=>.bp (ma cs)
 | .list (.own _) sz es=>.list .lQ sz es
 | .list (.bk _ _) sz es=>.list .lQ sz es
 | v=>v
def ma:List AV→List AV
 | []=>[]
 | a :: l=>a.ia :: ma l
end
inductive SV where
 | none
 | v (a:AV)
 | lp (key off:Nat)
inductive Ent where
 | put (d:Nat) (x:SV)
 | kill (d:Nat)
abbrev bj:=List Ent
abbrev cP:=List (Nat × List AV)
def lk:bj→Nat→SV
 | [],_=>.none
 | .put d x :: l,t=>bif Nat.beq d t then x else lk l t
 | .kill d :: l,t=>match lk l t with
  | .lp k off=>bif Nat.beq k d then .none else .lp k off
  | x=>x
def dO:cP→Nat→Option (List AV)
 | [],_=>none
 | (d,cs) :: l,k=>bif Nat.beq d k then some cs else dO l k
inductive GO where
 | dead
 | row (cs:List AV) (el:TypeId)
 | tok (f sz:Nat) (e:TypeId)
 | bk (fs:List Nat) (sz:Nat) (e:TypeId)
 | oG (rJ n:Nat) (left:List Nat) (cur:Option Nat) (t:TypeId)
 | dw (es:List AV) (sz:Nat) (el:TypeId)
 | map (es:List (AV × AV))
 | gZ (s:List UInt8) (pos:Nat)
 | loop (busy:Bool) (pending:Option Code) (fn:FuncId) (ae:bj) (n:Nat) (params:List Tmp) (assign body:Code) (defers:Nat) (done:Bool)
 | defers (open_:Bool)
structure St where
 ae:bj
 boxes:cP
 G:List GO
 marks:List Nat
 ro:Option Nat
 n:Nat
def nth {α:Type}:List α→Nat→Option α
 | [],_=>none
 | a :: _,0=>some a
 | _ :: l,n+1=>nth l n
def aF {α:Type}:List α→Nat→α→List α
 | [],_,_=>[]
 | _ :: l,0,x=>x :: l
 | a :: l,n+1,x=>a :: aF l n x
def takeN {α:Type}:Nat→List α→Option (List α)
 | 0,_=>some []
 | _+1,[]=>none
 | n+1,a :: l=>match takeN n l with
  | some r=>some (a :: r)
  | none=>none
def gd {α:Type}:Nat→List α→List α
 | 0,l=>l
 | _+1,[]=>[]
 | n+1,_ :: l=>gd n l
def GD {α:Type} (off n:Nat) (l:List α):Option (List α):=takeN n (gd off l)
def ck {α:Type}:List α→Nat→List α→List α
 | l,_,[]=>l
 | [],_,_ :: _=>[]
 | _ :: l,0,y :: ys=>y :: ck l 0 ys
 | a :: l,n+1,y :: ys=>a :: ck l n (y :: ys)
def AV.cells:AV→List AV
 | .agg cs=>cs
 | v=>[v]
def AV.one:AV→Bool
 | .agg _=>false
 | .bp _=>false
 | _=>true
def sw:Value→Option AV
 | .bool b=>some (.bool b)
 | .int k n=>some (.int k n)
 | .string s=>some (.str s.data.toList)
 | .slice none 0 0=>some (.list .nil 0 [])
 | .pointer none=>some .jd
 | .map none=>some .kX
 | .nilFunc=>some .cI
 | .nilIface=>some .oN
 | _=>none
def mR:List Value→Option (List AV)
 | []=>some []
 | v :: vs=>match sw v,mR vs with
  | some a,some l=>some (a :: l)
  | _,_=>none
def sx:Value→Option AV
 | .agg cs=>match mR cs.toList with
  | some l=>some (.agg l)
  | none=>none
 | .tuple cs=>match mR cs.toList with
  | some l=>some (.bp l)
  | none=>none
 | v=>sw v
inductive TK where
 | sc
 | int (k:IntKind)
 | str
 | st (fs:List (Nat × Nat × Bool))
 | arr (len esz:Nat) (acx:Bool)
 | sl (elem esz:Nat) (acx:Bool) (bI:Nat) (Yu:Option AV)
 | map (key elem:TypeId) (Yu:Option AV)
mutual
inductive EK where
 | no
 | bool
 | int
 | str
 | st (fs:S5)
inductive S5 where
 | nil
 | cons (off sz:Nat) (ag:Bool) (k:EK) (rest:S5)
end
structure TI where
 k:TK
 size:Nat
 agg:Bool
 zero:Option AV
 ek:EK
def kh:TypeDesc→Bool
 | .struct _=>true
 | .array _ _=>true
 | _=>false
def fieldsOf (P:Program):List Field→Option (List (Nat × Nat × Bool))
 | []=>some []
 | f :: fs=>match P.info? f.type,P.underlying f.type,fieldsOf P fs with
  | some i,some u,some l=>some ((f.offset,i.size,kh u) :: l)
  | _,_,_=>none
def gM (i:TypeInfo):Option AV:=match i.zero with
 | some z=>sx z
 | none=>none
def qN (P:Program):TypeDesc→Option TK
 | .int k=>some (.int k)
 | .string=>some .str
 | .struct fs=>match fieldsOf P fs.toList with
  | some l=>some (.st l)
  | none=>none
 | .array n e=>match P.info? e,P.underlying e with
  | some i,some u=>some (.arr n i.size (kh u))
  | _,_=>none
 | .slice e=>match P.info? e,P.underlying e with
  | some i,some u=>some (.sl e i.size (kh u) i.bytes (gM i))
  | _,_=>none
 | .map k e=>match P.info? e with
  | some i=>some (.map k e (gM i))
  | none=>none
 | _=>some .sc
def EP (P:Program) (ek:TypeId→EK):List Field→Option S5
 | []=>some .nil
 | f :: fs => if f.name == "_" then none else match P.info? f.type, P.underlying f.type, EP P ek fs with
  | some i,some u,some l=>some (.cons f.offset i.size (kh u) (ek f.type) l)
  | _,_,_=>none
def xj (sz:Nat) (ag:Bool) (k:EK):Nat→Nat→S5
 | 0,_=>.nil
 | n+1,i=>.cons (i * sz) sz ag k (xj sz ag k n (i+1))
def qO (P:Program):Nat→TypeId→EK
 | 0,_=>.no
 | n+1,t=>match P.underlying t with
  | some .bool=>.bool
  | some (.int _)=>.int
  | some .string=>.str
  | some (.struct fs)=>if P.stoodInHeld t then .no else match EP P (qO P n) fs.toList with
   | some l=>.st l
   | none=>.no
  | some (.array m e)=>match P.info? e,P.underlying e with
   | some i,some u=>.st (xj i.size (kh u) (qO P n e) m 0)
   | _,_=>.no
  | _=>.no
def vi (P:Program) (t:TypeId):EK:=match qO P 6 t with
 | .st l=>if P.eqGuardType P.depth t then .no else .st l
 | k=>k
def H3 (P:Program) (t:TypeId):Option TI:=
 match P.info? t,P.underlying t with
 | some i,some u=>match qN P u with
  | some k=>some { k:=k,size:=i.size,agg:=kh u,zero:=gM i,ek:=vi P t }
  | none=>none
 | _,_=>none
def GF:AV→AV→Bool
 | .bool a,.bool b=>a == b
 | .int k a,.int k' b=>(k == k')&&a == b
 | .str a,.str b=>a == b
 | .jd,.jd=>true
 | .ptr i o,.ptr i' o'=>Nat.beq i i'&&Nat.beq o o'
 | .kX,.kX=>true
 | .map i,.map i'=>Nat.beq i i'
 | .cI,.cI=>true
 | .oN,.oN=>true
 | .kB a b c d e,.kB a' b' c' d' e'=>Nat.beq a a'&&Nat.beq b b'&&Nat.beq c c'&&Nat.beq d d'&&Nat.beq e e'
 | .dD a b c d e,.dD a' b' c' d' e'=>Nat.beq a a'&&Nat.beq c c'&&Nat.beq d d'&&(Nat.beq b b'&&Nat.beq e e')
 | .gp a b c d e t,.gp a' b' c' d' e' t'=>Nat.beq a a'&&Nat.beq b b'&&Nat.beq c c'&&Nat.beq d d'&&Nat.beq e e'&&Nat.beq t t'
 | _,_=>false
mutual
def eH:AV→AV→Bool
 | .fn f x y,.fn f' x' y'=>Nat.beq f f'&&iN x x'&&iN y y'
 | .agg cs,.agg cs'=>iN cs cs'
 | .ep cs,.ep cs'=>iN cs cs'
 | .bp cs,.bp cs'=>iN cs cs'
 | .list .nil a es,.list .nil a' es'=>Nat.beq a a'&&iN es es'
 | .list .full a es,.list .full a' es'=>Nat.beq a a'&&iN es es'
 | .list .lQ a es,.list .lQ a' es'=>Nat.beq a a'&&iN es es'
 | .list (.own i) a es,.list (.own i') a' es'=>Nat.beq i i'&&Nat.beq a a'&&iN es es'
 | .list (.bk i j) a es,.list (.bk i' j') a' es'=>Nat.beq i i'&&Nat.beq j j'&&Nat.beq a a'&&iN es es'
 | a,b=>GF a b
def iN:List AV→List AV→Bool
 | [],[]=>true
 | a :: l,b :: r=>eH a b&&iN l r
 | _,_=>false
end
mutual
inductive aR
 | int (k:IntKind)
 | bool
 | str
 | agg (ps:aT)
 | bp (ps:aT)
 | list (sz:Nat) (p:aR)
 | own (id sz:Nat) (p:aR)
 | bk (id sz:Nat) (p:aR)
 | dS (v:AV)
 | two (u v:AV)
inductive aT
 | nil
 | cons (p:aR) (ps:aT)
end
def Yv (s:Bool) (α β:Type):Type:=match s with
 | true=>α
 | false=>α × β
def aT.isNil:aT→Bool
 | .nil=>true
 | .cons _ _=>false
mutual
def aR.T:aR→Type
 | .int _=>Int
 | .bool=>Bool
 | .str=>List UInt8
 | .agg ps=>ps.T
 | .bp ps=>ps.T
 | .list _ p=>List p.T
 | .own _ _ p=>List p.T
 | .bk _ _ p=>Nat × List p.T
 | .dS _=>Unit
 | .two _ _=>Bool
def aT.T:aT→Type
 | .nil=>Unit
 | .cons p ps=>Yv ps.isNil p.T ps.T
end
mutual
def aR.enc:(p:aR)→p.T→AV
 | .int k,(n:Int)=>.int k n
 | .bool,(b:Bool)=>.bool b
 | .str,(s:List UInt8)=>.str s
 | .agg ps,x=>.agg (ps.enc x)
 | .bp ps,x=>.bp (ps.enc x)
 | .list sz p,(xs:List p.T)=>.list .lQ sz (xs.map p.enc)
 | .own id sz p,(xs:List p.T)=>.list (.own id) sz (xs.map p.enc)
 | .bk id sz p,(x:Nat × List p.T)=>.list (.bk id x.1) sz (x.2.map p.enc)
 | .dS v,_=>v
 | .two u v,(b:Bool)=>bif b then v else u
def aT.enc:(ps:aT)→ps.T→List AV
 | .nil,_=>[]
 | .cons p .nil,x=>[p.enc x]
 | .cons p (.cons q ps),x=>p.enc x.1 :: (aT.cons q ps).enc x.2
end
def Ub:IntKind→IntKind→Bool:=fun a b=>decide (a=b)
def AV.kh:AV→List AV
 | .agg cs=>cs
 | _=>[]
def AV.Uc:AV→List AV
 | .bp cs=>cs
 | _=>[]
def AV.eQ:AV→List AV
 | .list _ _ es=>es
 | _=>[]
def AV.acy:AV→Nat
 | .list (.bk _ j) _ _=>j
 | _=>0
def AV.lR:AV→Int
 | .int _ n=>n
 | _=>0
def AV.Yw:AV→Bool
 | .bool b=>b
 | _=>false
def AV.Ud:AV→List UInt8
 | .str s=>s
 | _=>[]
def fc:List AV→AV
 | a :: _=>a
 | []=>.jd
def JR:List AV→List AV
 | _ :: l=>l
 | []=>[]
mutual
def aR.bA:(p:aR)→AV→p.T
 | .int _,v=>v.lR
 | .bool,v=>v.Yw
 | .str,v=>v.Ud
 | .agg ps,v=>ps.bA v.kh
 | .bp ps,v=>ps.bA v.Uc
 | .list _ p,v=>v.eQ.map p.bA
 | .own _ _ p,v=>v.eQ.map p.bA
 | .bk _ _ p,v=>(v.acy,v.eQ.map p.bA)
 | .dS _,_=>()
 | .two _ v,a=>eH a v
def aT.bA:(ps:aT)→List AV→ps.T
 | .nil,_=>()
 | .cons p .nil,l=>p.bA (fc l)
 | .cons p (.cons q ps),l=>(p.bA (fc l),(aT.cons q ps).bA (JR l))
end
def allFit (f:AV→Bool):List AV→Bool
 | []=>true
 | a :: l=>f a&&allFit f l
mutual
def aR.fits:aR→AV→Bool
 | .int k,v=>match v with
  | .int k' _=>Ub k k'
  | _=>false
 | .bool,v=>match v with
  | .bool _=>true
  | _=>false
 | .str,v=>match v with
  | .str _=>true
  | _=>false
 | .agg ps,v=>match v with
  | .agg cs=>ps.fits cs
  | _=>false
 | .bp ps,v=>match v with
  | .bp cs=>ps.fits cs
  | _=>false
 | .list sz p,v=>match v with
  | .list _ bQ es=>(Nat.beq sz bQ || es.isEmpty)&&allFit p.fits es
  | _=>false
 | .own id sz p,v=>match v with
  | .list (.own kf) bQ es=>(Nat.beq id kf&&Nat.beq sz bQ)&&allFit p.fits es
  | _=>false
 | .bk id sz p,v=>match v with
  | .list (.bk kf _) bQ es=>(Nat.beq id kf&&Nat.beq sz bQ)&&allFit p.fits es
  | _=>false
 | .dS v,u=>eH u v
 | .two u v,a=>eH a u || eH a v
def aT.fits:aT→List AV→Bool
 | .nil,l=>l.isEmpty
 | .cons p ps,l=>match l with
  | a :: l=>p.fits a&&ps.fits l
  | []=>false
end
def aR.dec (p:aR) (v:AV):Option p.T:=bif p.fits v then some (p.bA v) else none
def aT.dec (ps:aT) (l:List AV):Option ps.T:=bif ps.fits l then some (ps.bA l) else none
structure Env where
 P:Program
 ti:TypeId→Option TI
 cm:Nat→Option (List AV)
 zU:FuncId→Tmp→Bool
 Oo:TypeId→Option aR
 lo:Nat:=0
 gho:FuncId→Tmp→List (Option Nat × Nat × TypeId):=fun _ _=>[]
 elg:TypeId→Option aR:=fun _=>none
 gx:Nat→Bool:=fun _=>false
 H4:∀ t i,ti t=some i→H3 P t=some i
 mixed:P.follows .mixedOrders=true
 oV:∀ g cs,cm g=some cs→bg cs=true
def bM (E:Env) (ae:bj):Operand→SV
 | .tmp t=>lk ae t
 | .const v=>match sx v with
  | some a=>.v a
  | none=>.none
 | .global g=>match E.cm g with
  | some cs=>.v (.ep cs)
  | none=>.none
 | .func f=>.v (.fn f [] [])
def St.put (s:St) (dst:Option Tmp) (x:SV):St:=match dst with
 | some d=>match Nat.blt d s.n with
  | true=>⟨.put d x :: s.ae,s.boxes,s.G,s.marks,s.ro,s.n⟩
  | false=>s
 | none=>s
def gw:AV:=.bp []
def tT (agg:Bool) (cs:List AV):Option AV:=
 if agg then some (.agg cs) else match cs with
  | [c]=>some c
  | _=>none
def nG (s:St):SV→Option (List AV × Nat)
 | .lp k off=>match dO s.boxes k with
  | some cs=>some (cs,off)
  | none=>none
 | .v (.ptr id off)=>match nth s.G id with
  | some (.row cs _)=>some (cs,off)
  | _=>none
 | .v (.ep cs)=>some (cs,0)
 | _=>none
def Ar (n:Nat):SV→Option SV
 | .lp k off=>some (.lp k (off+n))
 | .v (.ptr id off)=>some (.v (.ptr id (off+n)))
 | .v (.ep cs)=>some (.v (.ep (gd n cs)))
 | .v (.gp id f i off sz t)=>some (.v (.gp id f i (off+n) sz t))
 | _=>none
def Bv (t:Bool):AV→AV→AV
 | .bool x,.bool y=>.bool (bif t then x else y)
 | .int k x,.int k' y=>if k=k' then .int k (bif t then x else y) else (bif t then .int k x else .int k' y)
 | a,b=>bif t then a else b
def GG (ag:Bool) (off sz:Nat) (cs:List AV):Option AV:=
 if ag then (match GD off sz cs with | some l=>tT true l | none=>none) else (match GD off 1 cs with | some l=>tT false l | none=>none)
mutual
def lS:EK→AV→AV→Option Bool
 | .bool,.bool a,.bool b=>some (a == b)
 | .int,.int k a,.int k' b=>if k=k' then some (a == b) else none
 | .str,.str a,.str b=>some (a == b)
 | .st fs,.agg xs,.agg ys=>tU fs xs ys
 | _,_,_=>none
def tU:S5→List AV→List AV→Option Bool
 | .nil,_,_=>some true
 | .cons off sz ag k rest,xs,ys=>match GG ag off sz xs,GG ag off sz ys with
  | some a,some b=>match lS k a b,tU rest xs ys with
   | some t,some u=>some (t&&u)
   | _,_=>none
  | _,_=>none
end
def H5 (k:IntKind) (a b:Int):Int:=k.wrap (BitVec.ofInt k.bits a &&& BitVec.ofInt k.bits b).toNat
def orI (k:IntKind) (a b:Int):Int:=k.wrap (BitVec.ofInt k.bits a ||| BitVec.ofInt k.bits b).toNat
def H6 (k:IntKind) (a b:Int):Int:=k.wrap (BitVec.ofInt k.bits a ^^^ BitVec.ofInt k.bits b).toNat
def CG (op:BinOp) (x y:AV):Option (Bool × AV):=
 match x,y with
 | .int k a,.int k' b=>
  match op with
  | .shl=>some (decide (0≤b),.int k (k.wrap (a * 2 ^ (min b.toNat k.bits))))
  | .shr=>some (decide (0≤b),.int k (a.fdiv (2 ^ (min b.toNat k.bits))))
  | _=>if k=k' then
    match op with
    | .add=>some (true,.int k (k.wrap (a+b)))
    | .sub=>some (true,.int k (k.wrap (a - b)))
    | .mul=>some (true,.int k (k.wrap (a * b)))
    | .quo=>some (!(decide (b=0)),.int k (k.wrap (a.tdiv b)))
    | .rem=>some (!(decide (b=0)),.int k (a.tmod b))
    | .and=>some (true,.int k (H5 k a b))
    | .or=>some (true,.int k (orI k a b))
    | .xor=>some (true,.int k (H6 k a b))
    | .eql=>some (true,.bool (a == b))
    | .neq=>some (true,.bool (a != b))
    | .lss=>some (true,.bool (a < b))
    | .leq=>some (true,.bool (a≤b))
    | .gtr=>some (true,.bool (a > b))
    | .geq=>some (true,.bool (a≥b))
    | _=>none
   else none
 | .str a,.str b=>
  match op with
  | .add=>some (decide (a.length+b.length≤9223372036854775807),.str (a++b))
  | .eql=>some (true,.bool (a == b))
  | .neq=>some (true,.bool (!(a == b)))
  | .lss=>some (true,.bool (Op.bytesLess a b))
  | .leq=>some (true,.bool (Op.bytesLess a b || a == b))
  | .gtr=>some (true,.bool (!(Op.bytesLess a b || a == b)))
  | .geq=>some (true,.bool (!(Op.bytesLess a b)))
  | _=>none
 | _,_=>none
end Go.Am
namespace Go.Am
open Go
def St.kill (s:St) (d:Nat):St:=⟨.kill d :: s.ae,s.boxes,s.G,s.marks,s.ro,s.n⟩
def AV.a6:AV→Bool
 | .bp _=>false
 | _=>true
def St.eL (s:St) (o:GO):St:=⟨s.ae,s.boxes,s.G++[o],s.marks,s.ro,s.n⟩
def St.cg (s:St) (G:List GO):St:=⟨s.ae,s.boxes,G,s.marks,s.ro,s.n⟩
def St.vW (s:St) (d:Nat) (cs:List AV):St:=⟨s.ae,(d,cs) :: s.boxes,s.G,s.marks,s.ro,s.n⟩
def fM (E:Env) (f:FuncId) (s:St) (dst:Option Tmp) (el:TypeId) (cs:List AV):Option (Bool × St):=
 match dst with
 | none=>none
 | some d=>
  if E.zU f d then some (true,(s.eL (.row cs el)).put (some d) (.v (.ptr s.G.length 0)))
  else match Nat.blt d s.n with
   | true=>some (true,((s.kill d).vW d cs).put (some d) (.lp d 0))
   | false=>none
def mP (E:Env) (ae:bj):List Operand→Option (List AV)
 | []=>some []
 | x :: l=>match bM E ae x,mP E ae l with
  | .v a,some r=>some (a :: r)
  | _,_=>none
def N1 (E:Env) (ae:bj):List (Nat × Operand)→Option (List (Nat × AV))
 | []=>some []
 | (i,x) :: l=>match bM E ae x,N1 E ae l with
  | .v a,some r=>some ((i,a) :: r)
  | _,_=>none
def placeOf:TK→Nat→Option (Nat × Nat)
 | .st fs,j=>match nth fs j with
  | some (o,sz,_)=>some (o,sz)
  | none=>none
 | .arr _ esz _,j=>some (j * esz,esz)
 | _,_=>none
def vj (place:Nat→Option (Nat × Nat)) (cells:List AV):List (Nat × AV)→Option (List AV)
 | []=>some cells
 | (i,v) :: rest=>match place i with
  | none=>none
  | some (off,sz)=>
   if v.a6&&Nat.beq v.cells.length sz&&Nat.ble (off+sz) cells.length then vj place (ck cells off v.cells) rest else none
def CH (esz:Nat) (es:List AV):List (Nat × AV)→Option (List AV)
 | []=>some es
 | (i,v) :: rest=>
  if v.a6&&Nat.beq v.cells.length esz&&Nat.ble (i+1) es.length&&v.closed then CH esz (aF es i v) rest else none
def nH (E:Env) (s:St) (t:TypeId) (parts:List (Nat × Operand)):Option AV:=
 match E.ti t,N1 E s.ae parts with
 | some i,some ps=>match i.zero with
  | some z=>match vj (placeOf i.k) z.cells ps with
   | some cs=>if i.agg&&z.a6 then some (.agg cs) else none
   | none=>none
  | none=>none
 | _,_=>none
def As:List (Nat × AV)→List (Nat × AV)
 | []=>[]
 | (i,v) :: l=>(i,v.ia) :: As l
def cj (E:Env) (s:St) (t:TypeId) (len:Nat) (parts:List (Nat × Operand)):Option AV:=
 match E.ti t,N1 E s.ae parts with
 | some i,some ps=>match i.k with
  | .sl _ esz _ _ (some z)=>
    if Nat.beq z.cells.length esz&&Nat.ble 1 esz&&Nat.ble (len * esz) 16777216&&z.a6&&z.closed then
     match CH esz (List.replicate len z) (As ps) with
     | some es=>some (.list .full esz es)
     | none=>none
    else none
  | _=>none
 | _,_=>none
def sy (E:Env) (s:St) (t:TypeId) (p:SV):Option AV:=
 match E.ti t,nG s p with
 | some i,some (cs,off)=>match GD off i.size cs with
  | some l=>tT i.agg l
  | none=>none
 | _,_=>none
def ki (E:Env) (s:St) (t:TypeId) (p x:SV):Option St:=
 match E.ti t,x with
 | some i,.v v=>
  if v.a6&&Nat.beq v.cells.length i.size then
   match p with
   | .lp k off=>match dO s.boxes k with
    | some cs=>if Nat.ble (off+v.cells.length) cs.length then some (s.vW k (ck cs off v.cells)) else none
    | none=>none
   | .v (.ptr id off)=>match nth s.G id with
    | some (.row cs el)=>if Nat.ble (off+v.cells.length) cs.length then some (s.cg (aF s.G id (.row (ck cs off v.cells) el))) else none
    | _=>none
   | _=>none
  else none
 | _,_=>none
def ah (es:List AV) (n:Nat):AV:=match nth es n with
 | some e=>e
 | none=>gw
def jO:List GO→Nat→TypeId→Nat→Option Nat
 | [],_,_,_=>none
 | .bk _ sz e :: G,bQ,e',i=>match jO G bQ e' (i+1) with
  | some j=>some j
  | none=>bif Nat.beq sz bQ&&Nat.beq e e' then some i else none
 | _ :: G,bQ,e',i=>jO G bQ e' (i+1)
def aR.fin (G:List GO):aR→aR
 | .bk e sz p=>match jO G sz e 0 with
  | some id=>.bk id sz p
  | none=>.bk e sz p
 | .agg ps=>.agg (Yx ps)
 | p=>p
where
 Yx:aT→aT
  | .nil=>.nil
  | .cons p ps=>.cons (match p with
   | .bk e sz q=>match jO G sz e 0 with
    | some id=>.bk id sz q
    | none=>.bk e sz q
   | p=>p) (Yx ps)
def S6 (E:Env) (G:List GO) (t:TypeId):Option aR:=match E.elg t with
 | some p=>some (p.fin G)
 | none=>E.Oo t
def xl (E:Env) (s:St) (id f i sz:Nat) (t:TypeId):Option (Bool × AV):=match nth s.G id with
 | some (.dw es bQ _)=>match S6 E s.G t with
  | some p=>if Nat.beq sz bQ then some (decide (f=es.length)&&decide (i < es.length)&&p.fits (ah es i),p.enc (p.bA (ah es i))) else none
  | none=>if Nat.beq sz bQ then some (decide (f=es.length)&&decide (i < es.length),ah es i) else none
 | _=>none
def Au (E:Env) (s:St) (t:TypeId) (p:SV):Option (Bool × AV):=match p with
 | .v (.gp id f i off sz ty)=>match E.ti t,xl E s id f i sz ty with
  | some ti,some (c,v)=>match GD off ti.size v.cells with
   | some l=>match tT ti.agg l with
    | some r=>some (c,r)
    | none=>none
   | none=>none
  | _,_=>none
 | p=>match sy E s t p with
  | some v=>some (true,v)
  | none=>none
def kj (E:Env) (s:St) (t:TypeId) (p x:SV):Option (Bool × St):=match p with
 | .v (.gp id f i off sz ty)=>match E.ti t,x,nth s.G id with
  | some ti,.v x,some (.dw es bQ el)=>
   if x.a6&&Nat.beq x.cells.length ti.size&&Nat.beq sz bQ then
    if Nat.beq off 0&&Nat.beq ti.size sz then some (decide (f=es.length)&&decide (i < es.length),s.cg (aF s.G id (.dw (aF es i x) bQ el)))
    else match xl E s id f i sz ty with
     | some (c,.agg cs)=>if Nat.ble (off+ti.size) cs.length&&Nat.beq cs.length sz then some (c,s.cg (aF s.G id (.dw (aF es i (.agg (ck cs off x.cells))) bQ el))) else none
     | _=>none
   else none
  | _,_,_=>none
 | p=>match ki E s t p x with
  | some s'=>some (true,s')
  | none=>none
def kY (E:Env) (t:TypeId) (x ix:SV):Option (Bool × SV):=
 match E.ti t,ix with
 | some i,.v (.int _ n)=>match i.k,x with
  | .sl _ esz _ _ _,.v (.list _ sz es)=>if Nat.beq sz esz || es.isEmpty then
    match E.Oo t with
    | some p=>some (decide (0≤n∧n < es.length)&&p.fits (ah es n.toNat),.v (.ep (p.enc (p.bA (ah es n.toNat))).cells))
    | none=>some (decide (0≤n∧n < es.length),.v (.ep (ah es n.toNat).cells))
   else none
  | .sl _ esz _ _ _,.v (.kB id off sz len _)=>if Nat.beq sz esz then some (decide (0≤n∧n < len),.v (.ptr id (off+n.toNat * sz))) else none
  | .sl _ esz _ _ _,.v (.dD id f off sz len)=>if Nat.beq sz esz then some (decide (0≤n∧n < len),.v (.gp id f (off+n.toNat) 0 sz t)) else none
  | .arr len esz _,.v (.ep cs)=>match E.Oo t with
   | some p=>if Nat.beq esz 1&&Nat.ble len cs.length then some (decide (0≤n∧n < len)&&p.fits (ah cs n.toNat),.v (.ep [p.enc (p.bA (ah cs n.toNat))])) else none
   | none=>some (decide (0≤n∧n < len),.v (.ep (gd (n.toNat * esz) cs)))
  | .arr len esz _,p=>match Ar (n.toNat * esz) p with
   | some q=>some (decide (0≤n∧n < len),q)
   | none=>none
  | _,_=>none
 | _,_=>none
def kZ (E:Env) (t:TypeId) (x:SV) (j:Nat):Option SV:=
 match E.ti t with
 | some i=>match i.k with
  | .st fs=>match nth fs j with
   | some (o,sz,_)=>if Nat.ble 1 sz then Ar o x else none
   | none=>none
  | _=>none
 | none=>none
def EQ (E:Env) (t:TypeId) (x:SV) (j:Nat):Option AV:=
 match E.ti t,x with
 | some i,.v (.agg cs)=>match i.k with
  | .st fs=>match nth fs j with
   | some (o,sz,ag)=>if ag then (match GD o sz cs with | some l=>tT true l | none=>none) else (match GD o 1 cs with | some l=>tT false l | none=>none)
   | none=>none
  | _=>none
 | _,_=>none
def ER (E:Env) (t:TypeId) (x ix:SV):Option (Bool × AV):=
 match E.ti t,x,ix with
 | some i,.v (.str l),.v (.int _ n)=>match i.k with
  | .str=>some (decide (0≤n∧n < l.length),.int .u8 (l.getD n.toNat 0).toNat)
  | _=>none
 | some i,.v (.agg cs),.v (.int _ n)=>match i.k with
  | .arr len esz ag=>match (if ag then (match GD (n.toNat * esz) esz cs with | some l=>tT true l | none=>none) else (match GD (n.toNat * esz) 1 cs with | some l=>tT false l | none=>none)) with
   | some v=>some (decide (0≤n∧n < len),v)
   | none=>none
  | _=>none
 | _,_,_=>none
def Bw (y:Nat):SV→Option (Bool × Nat)
 | .v (.int _ n)=>some (decide (0≤n∧n≤y),n.toNat)
 | _=>none
def eR {α:Type} (lo hi:Nat) (l:List α):List α:=(l.take hi).drop lo
def nI (E:Env) (ae:bj):Option Operand→Option (Option SV)
 | none=>some none
 | some x=>some (some (bM E ae x))
def ES (len:Nat) (lo hi:Option SV):Option (Bool × Nat × Nat):=
 match (match hi with | none=>some (true,len) | some h=>Bw len h) with
 | none=>none
 | some (c1,h)=>match (match lo with | none=>some (true,0) | some l=>Bw h l) with
  | none=>none
  | some (c2,l)=>some (c1&&c2,l,h)
def Yy (agg:Bool) (l:List AV):AV:=match agg with
 | true=>.agg l
 | false=>fc l
def iF (agg:Bool) (sz:Nat):Nat→List AV→List AV
 | 0,_=>[]
 | n+1,cs=>Yy agg (cs.take sz) :: iF agg sz n (cs.drop sz)
def ET (ag:Bool) (e:AV):Bool:=e.a6&&(ag || e.one)&&e.closed
def Bx (E:Env) (t:TypeId) (x:SV) (lo hi:Option SV) (mx:Option Operand):Option (Bool × AV):=
 match E.ti t,mx with
 | some i,none=>match i.k,x with
  | .str,.v (.str l)=>match ES l.length lo hi with
   | some (c,a,b)=>some (c,.str (eR a b l))
   | none=>none
  | .sl _ esz _ _ _,.v (.list k sz es)=>
   if Nat.beq sz esz || es.isEmpty then
    match ES es.length lo hi with
    | some (c,a,b)=>some (c,.list (match k with | .nil=>.nil | .full=>(match hi with | none=>.full | some _=>.lQ) | _=>.lQ) esz (eR a b es))
    | none=>none
   else none
  | .sl _ esz _ _ _,.v (.kB id off sz len cap)=>
   if Nat.beq sz esz then
    match ES len lo hi with
    | some (c,a,b)=>some (c,.kB id (bif Nat.beq cap a then off else off+a * sz) sz (b - a) (cap - a))
    | none=>none
   else none
  | .sl _ esz _ _ _,.v (.dD id f off sz len)=>
   if Nat.beq sz esz then
    match ES len lo hi with
    | some (c,a,b)=>some (c,.dD id f (off+a) sz (b - a))
    | none=>none
   else none
  | .arr len esz ag,.v (.ep cs)=>match lo,hi with
   | none,none=>if Nat.ble (len * esz) cs.length&&Nat.ble 1 esz&&(ag || Nat.beq esz 1)&&allFit (ET ag) (iF ag esz len cs) then some (true,.list .full esz (iF ag esz len cs)) else none
   | _,_=>none
  | _,_=>none
 | _,_=>none
def JS (G:List GO) (id n:Nat) (f sz:Nat) (e:TypeId):List GO:=aF G id (.tok (f+n) sz e)
def H7 (fs:List Nat) (j n:Nat):List Nat:=bif Nat.beq j fs.length then fs++[n] else aF fs j n
def Oq (fs:List Nat) (j n:Nat):Bool:=decide (nth fs j=some n) || (Nat.beq j fs.length&&Nat.beq n 0)
def gN (G:List GO) (elem esz bI:Nat) (x:AV) (ys:List AV):Option (Bool × AV × List GO):=
 match x,ys with
 | .list k sz es,[]=>match k with
  | .nil=>some (true,.list .nil sz es,G)
  | k=>some (true,.list k sz es,G)
 | .list k sz es,y :: ys=>
  match k with
  | .nil=>some (decide ((es.length+(y :: ys).length) * bI≤140737488355328),.list (.own G.length) esz (es++(y :: ys)),G++[.tok (es.length+(y :: ys).length) esz elem])
  | .full=>if Nat.beq sz esz then some (decide ((es.length+(y :: ys).length) * bI≤140737488355328),.list (.own G.length) esz (es++(y :: ys)),G++[.tok (es.length+(y :: ys).length) esz elem]) else none
  | .own id=>match nth G id with
   | some (.tok f bQ e')=>if Nat.beq bQ esz&&Nat.beq e' elem&&Nat.beq sz esz then
     some (decide (f=es.length)&&decide ((es.length+(y :: ys).length) * bI≤140737488355328),.list (.own id) esz (es++(y :: ys)),JS G id (y :: ys).length f esz elem) else none
   | _=>none
  | .bk id j=>match nth G id with
   | some (.bk fs bQ e')=>if Nat.beq bQ esz&&Nat.beq e' elem&&Nat.beq sz esz then
     some (Oq fs j es.length&&decide ((es.length+(y :: ys).length) * bI≤140737488355328),.list (.bk id j) esz (es++(y :: ys)),aF G id (.bk (H7 fs j (es.length+(y :: ys).length)) esz elem)) else none
   | _=>none
  | .lQ=>none
 | .dD id f off sz len,[]=>some (true,.dD id f off sz len,G)
 | .dD id f off sz len,y :: ys=>match nth G id with
  | some (.dw es bQ e')=>if Nat.beq bQ esz&&Nat.beq e' elem&&Nat.beq sz esz then
    some (decide (f=es.length)&&decide (off=0)&&decide (len=f)&&decide ((es.length+(y :: ys).length) * bI≤140737488355328),.dD id (es.length+(y :: ys).length) 0 esz (es.length+(y :: ys).length),aF G id (.dw (es++(y :: ys)) esz elem)) else none
  | _=>none
 | _,_=>none
def sA (b:UInt8):AV:=.int .u8 b.toNat
def je (es:List AV):List UInt8:=es.map fun a=>UInt8.ofNat a.lR.toNat
def xm (es:List AV):List UInt8:=es.flatMap fun a=>(Utf8.encode a.lR).data.toList
def H8:AV→List AV→Option AV
 | x,[]=>some x
 | .int k x,.int k' y :: l=>if k=k' then H8 (.int k (if y > x then y else x)) l else none
 | _,_=>none
def EU:AV→List AV→Option AV
 | x,[]=>some x
 | .int k x,.int k' y :: l=>if k=k' then EU (.int k (if y < x then y else x)) l else none
 | .str x,.str y :: l=>EU (.str (bif Op.bytesLess x y || x == y then x else y)) l
 | _,_=>none
def av:List AV→List AV
 | []=>[]
 | e :: es=>e.cells++av es
def sB (s:St) (esz:Nat) (d x:AV):Option (Nat × List GO):=
 match d with
 | .kB id off sz len _=>match nth s.G id with
  | some (.row cs el)=>
   if Nat.beq sz esz then
    match x with
    | .list _ bQ es=>if Nat.beq bQ esz || es.isEmpty then
      let n:=Nat.min es.length len
      let l:=av (es.take n)
      if Nat.ble (off+l.length) cs.length then some (n,aF s.G id (.row (ck cs off l) el)) else none
     else none
    | .str bs=>
      if Nat.beq esz 1&&Nat.ble (off+(bs.take (Nat.min bs.length len)).length) cs.length then some (Nat.min bs.length len,aF s.G id (.row (ck cs off ((bs.take (Nat.min bs.length len)).map sA)) el)) else none
    | .kB kf gy bQ EV _=>match nth s.G kf with
     | some (.row cs' _)=>
      let n:=Nat.min EV len
      match GD gy (n * esz) cs' with
      | some l=>if Nat.beq bQ esz&&Nat.ble (off+l.length) cs.length then some (n,aF s.G id (.row (ck cs off l) el)) else none
      | none=>none
     | _=>none
    | _=>none
   else none
  | _=>none
 | .dD id f off sz len=>match nth s.G id,x with
  | some (.dw es bQ el),.list _ szx xs=>if Nat.beq sz esz&&Nat.beq bQ sz&&(Nat.beq szx esz || xs.isEmpty)&&Nat.ble f es.length&&Nat.ble es.length f&&Nat.ble (off+Nat.min xs.length len) es.length then
    some (Nat.min xs.length len,aF s.G id (.dw (ck es off (xs.take (Nat.min xs.length len))) bQ el)) else none
  | _,_=>none
 | _=>none
def bV (E:Env) (s:St) (dst:Option Tmp) (b:Builtin) (args:List AV) (tys:List TypeId):Option (Bool × St):=
 match b,args with
 | .len,[x]=>match tys with
  | t :: _=>match E.ti t with
   | some i=>match i.k,x with
    | .str,.str l=>some (true,s.put dst (.v (.int .i64 l.length)))
    | .sl ..,.list _ _ es=>some (true,s.put dst (.v (.int .i64 es.length)))
    | .sl ..,.kB _ _ _ len _=>some (true,s.put dst (.v (.int .i64 len)))
    | .sl ..,.dD _ _ _ _ len=>some (true,s.put dst (.v (.int .i64 len)))
    | .arr n _ _,_=>some (true,s.put dst (.v (.int .i64 n)))
    | .map ..,.kX=>some (true,s.put dst (.v (.int .i64 0)))
    | .map ..,.map id=>match nth s.G id with
     | some (.map es)=>some (true,s.put dst (.v (.int .i64 es.length)))
     | _=>none
    | _,_=>none
   | none=>none
  | _=>none
 | .append,[x,.list _ sz ys]=>match tys with
  | [t,u]=>match E.ti t with
   | some i=>match i.k with
    | .sl elem esz _ bI (some z)=>
     if (Nat.beq sz esz || ys.isEmpty)&&Nat.beq t u&&Nat.ble 1 esz&&Nat.ble 1 bI&&Nat.beq z.cells.length esz&&z.a6 then
      match gN s.G elem esz bI x ys with
      | some (c,v,G')=>some (c,(s.cg G').put dst (.v v))
      | none=>none
     else none
    | _=>none
   | none=>none
  | _=>none
 | .append,[x,.str bs]=>match tys with
  | [t,u]=>match E.ti t,E.ti u with
   | some i,some j=>match i.k,j.k with
    | .sl elem esz _ bI (some z),.str=>
     if Nat.beq esz 1&&Nat.ble 1 bI&&Nat.beq z.cells.length esz&&z.a6 then
      match gN s.G elem esz bI x (bs.map sA) with
      | some (c,v,G')=>some (c,(s.cg G').put dst (.v v))
      | none=>none
     else none
    | _,_=>none
   | _,_=>none
  | _=>none
 | .copy,[d,x]=>match tys with
  | t :: _=>match E.ti t with
   | some i=>match i.k with
    | .sl _ esz _ _ _=>match sB s esz d x with
     | some (n,G')=>some (true,(s.cg G').put dst (.v (.int .i64 n)))
     | none=>none
    | _=>none
   | none=>none
  | _=>none
 | .clear,[x]=>match dst,tys,x with
  | none,[t],.dD id f off sz len=>match E.ti t,nth s.G id with
   | some i,some (.dw es bQ el)=>match i.k with
    | .sl elem esz _ _ (some z)=>if Nat.beq sz esz&&Nat.beq bQ sz&&Nat.beq el elem&&Nat.beq z.cells.length esz&&z.a6&&z.closed then
      some (decide (f=es.length)&&decide (off+len≤es.length),s.cg (aF s.G id (.dw (ck es off (List.replicate len z)) bQ el))) else none
    | _=>none
   | _,_=>none
  | _,_,_=>none
 | .max,x :: l=>match H8 x l with
  | some v=>some (true,s.put dst (.v v))
  | none=>none
 | .min,x :: l=>match EU x l with
  | some v=>some (true,s.put dst (.v v))
  | none=>none
 | _,_=>none
def EK.plain:EK→Bool
 | .bool | .int | .str=>true
 | .st _=>true
 | _=>false
def EK.wide:EK→Bool
 | .st _=>true
 | _=>false
def gO:AV→Bool
 | .bool _=>true
 | .int _ _=>true
 | .str _=>true
 | _=>false
def oW:AV→AV→Bool
 | .bool a,.bool b=>a == b
 | .int k a,.int l b=>decide (k=l)&&a == b
 | .str a,.str b=>a == b
 | _,_=>false
def mS:List AV→List AV→Bool
 | [],[]=>true
 | a :: l,b :: r=>oW a b&&mS l r
 | _,_=>false
def mb:AV→AV→Bool
 | .agg xs,.agg ys=>mS xs ys
 | _,_=>false
def ED (e:EK) (a b:AV):Option Bool:=match lS e a b with
 | some true=>bif e.wide&&!mb a b then none else some true
 | r=>r
def jx (e:EK) (k:AV):List (AV × AV)→Option (Option AV)
 | []=>some none
 | (k',v) :: l=>match ED e k k' with
  | some true=>some (some v)
  | some false=>jx e k l
  | none=>none
def tV (e:EK) (k v:AV):List (AV × AV)→Option (List (AV × AV))
 | []=>some [(k,v)]
 | (k',v') :: l=>match ED e k k' with
  | some true=>some ((k,v) :: l)
  | some false=>match tV e k v l with
   | some r=>some ((k',v') :: r)
   | none=>none
  | none=>none
def jf:EK→AV→Bool
 | .bool,.bool _=>true
 | .int,.int _ _=>true
 | .str,.str _=>true
 | .st fs,.agg cs=>cs.all gO&&(tU fs cs cs).isSome
 | _,_=>false
def mapOf (s:St):SV→Option (List (AV × AV))
 | .v .kX=>some []
 | .v (.map id)=>match nth s.G id with
  | some (.map es)=>some es
  | _=>none
 | _=>none
def mA (G:List GO) (id:Nat):List Nat:=match nth G id with
 | some (.bk fs _ _)=>fs
 | _=>[]
def CI (E:Env) (G:List GO) (t:TypeId) (z:AV):AV:=match E.elg t,z with
 | some (.bk e sz _),.list .nil _ []=>match jO G sz e 0 with
  | some id=>.list (.bk id (mA G id).length) sz []
  | none=>z
 | _,_=>z
def jR (E:Env) (s:St) (t:TypeId) (m k:SV):Option (AV × Bool):=match E.ti t,mapOf s m,k with
 | some i,some es,.v k=>match i.k with
  | .map kt _ (some z)=>match E.ti kt with
   | some j=>if j.ek.plain&&jf j.ek k then match jx j.ek k es with
     | some (some v)=>some (v,true)
     | some none=>some (z,false)
     | none=>none
    else none
   | none=>none
  | _=>none
 | _,_,_=>none
def mc (E:Env) (s:St) (t:TypeId) (m k:SV):Option (AV × Bool):=match jR E s t m k with
 | some (v,false)=>some (CI E s.G t v,false)
 | r=>r
def fN (E:Env) (s:St) (t:TypeId) (m k x:SV):Option St:=match E.ti t,m,k,x with
 | some i,.v (.map id),.v k,.v x=>match i.k,nth s.G id with
  | .map kt _ _,some (.map es)=>match E.ti kt with
   | some j=>if j.ek.plain&&jf j.ek k then match tV j.ek k x es with
     | some es'=>some (s.cg (aF s.G id (.map es')))
     | none=>none
    else none
   | none=>none
  | _,_=>none
 | _,_,_,_=>none
def qg (l:List UInt8) (pos:Nat):Nat × Nat:=
 bif Nat.blt (l.getD pos 0).toNat 128 then ((l.getD pos 0).toNat,1) else Utf8.decode ⟨⟨l⟩⟩ pos
def me (s:St) (dst:Option Tmp) (x:SV):Option St:=match x with
 | .v (.ptr id 0)=>match nth s.G id with
  | some (.gZ l pos)=>bif Nat.blt pos l.length then
    match qg l pos with
    | (c,n)=>some ((s.cg (aF s.G id (.gZ l (pos+n)))).put dst (.v (.bp [.bool true,.int .i64 pos,.int .i32 c])))
   else some (s.put dst (.v (.bp [.bool false])))
  | _=>none
 | _=>none
def eT (es:List (AV × AV)) (i:Nat):AV × AV:=match nth es i with
 | some e=>e
 | none=>(gw,gw)
def Ue (E:Env) (kt:TypeId):Option aR:=match E.Oo kt with
 | some p=>some p
 | none=>match E.ti kt with
  | some i=>match i.k with
   | .int k=>some (.int k)
   | .str=>some .str
   | _=>none
  | none=>none
def sC (E:Env) (t:TypeId) (e:AV × AV):Bool × AV × AV:=match E.ti t with
 | some i=>match i.k with
  | .map kt _ _=>match E.Oo t,Ue E kt with
   | some pv,some pk=>(pk.fits e.1&&pv.fits e.2,pk.enc (pk.bA e.1),pv.enc (pv.bA e.2))
   | _,_=>(true,e.1,e.2)
  | _=>(true,e.1,e.2)
 | none=>(true,e.1,e.2)
def Av (E:Env) (s:St) (dst:Option Tmp) (x:SV):Option (Bool × St × List Nat × (Nat→Bool × St)):=match x with
 | .v (.ptr id 0)=>match nth s.G id with
  | some (.oG rJ n left _ t)=>match nth s.G rJ with
   | some (.map es)=>some (decide (es.length=n),s.put dst (.v (.bp [.bool false])),left,
     fun i=>((sC E t (eT es i)).1,(s.cg (aF s.G id (.oG rJ n (left.erase i) (some i) t))).put dst (.v (.bp [.bool true,(sC E t (eT es i)).2.1,(sC E t (eT es i)).2.2]))))
   | _=>none
  | _=>none
 | _=>none
def tW (E:Env) (s:St) (o:Oper):Option (Bool × St × List Nat × (Nat→Bool × St)):=match o.op with
 | .next x false=>Av E s o.dst (bM E s.ae x)
 | _=>none
def eqO (E:Env) (op:BinOp) (t:TypeId) (a b:AV):Option Bool:=match op,E.ti t with
 | .eql,some i=>lS i.ek a b
 | .neq,some i=>match lS i.ek a b with
  | some r=>some (!r)
  | none=>none
 | _,_=>none
def kC (E:Env) (s:St) (t:TypeId) (len:Nat) (parts:List (Nat × Operand)):Option (List AV):=
 match E.ti t,N1 E s.ae parts with
 | some i,some ps=>match i.k with
  | .sl _ esz _ _ (some z)=>
    if Nat.beq z.cells.length esz&&Nat.ble 1 esz&&Nat.ble (len * esz) 16777216&&z.a6 then
     vj (fun i=>some (i * esz,esz)) (av (List.replicate len z)) (As ps)
    else none
  | _=>none
 | _,_=>none
def jS (E:Env) (f:FuncId) (s:St) (o:Oper):Option St:=match o.op with
 | .buildSlice t len parts=>match o.dst with
  | some d=>if E.zU f d then match E.ti t with
    | some i=>match i.k,cj E s t len parts.toList with
     | .sl elem _ _ _ _,some (.list _ esz es)=>some ((s.eL (.row (av es) elem)).put (some d) (.v (.kB s.G.length 0 esz len len)))
     | .sl elem esz _ _ _,none=>match kC E s t len parts.toList with
      | some cs=>some ((s.eL (.row cs elem)).put (some d) (.v (.kB s.G.length 0 esz len len)))
      | none=>none
     | _,_=>none
    | none=>none
   else if E.zU f (d+196608) then match E.ti t with
    | some i=>match i.k,cj E s t len parts.toList with
     | .sl elem _ _ _ _,some (.list _ esz es)=>if Nat.ble len 65536 then some ((s.eL (.dw es esz elem)).put (some d) (.v (.dD s.G.length len 0 esz len))) else none
     | _,_=>none
    | none=>none
   else if E.zU f (d+65536) then match E.ti t with
    | some i=>match i.k,cj E s t len parts.toList with
     | .sl elem _ _ _ _,some (.list _ esz es)=>if Nat.ble len 65536 then some ((s.eL (.tok len esz elem)).put (some d) (.v (.list (.own s.G.length) esz es))) else none
     | _,_=>none
    | none=>none
   else none
  | none=>none
 | _=>none
def Aw (wk:Bool) (es:List AV):List AV:=match wk with
 | true=>es.map AV.ia
 | false=>es
def mT (wk:Bool):List AV→List GO→Bool × List AV × List GO
 | [],G=>(true,[],G)
 | .dD id f 0 sz len :: l,G=>match nth G id with
  | some (.dw es bQ _)=>match mT wk l (aF G id .dead) with
   | (c,r,G')=>(decide (f=es.length)&&decide (len=es.length)&&Nat.beq sz bQ&&bg (Aw wk es)&&c,.list .lQ sz (Aw wk es) :: r,G')
  | _=>match mT wk l G with
   | (_,r,G')=>(false,r,G')
 | a :: l,G=>match mT wk l G with
  | (c,r,G')=>(c,a :: r,G')
def qh (cut wk:Bool) (s:St) (t:Tmp):Option (Bool × St):=match lk s.ae t with
 | .v (.dD id f off sz len)=>match nth s.G id with
  | some (.dw es bQ _)=>if Nat.beq off 0&&Nat.beq sz bQ then
    some (decide (f=es.length)&&(bif cut then decide (len≤es.length) else decide (len=es.length))&&bg (Aw wk es),⟨.put t (.v (.list .lQ sz (Aw wk (bif cut then es.take len else es)))) :: s.ae,s.boxes,aF s.G id .dead,s.marks,s.ro,s.n⟩) else none
  | _=>none
 | .v (.ptr id 0)=>match nth s.G id with
  | some (.row cs _)=>some (bg cs,⟨.put t (.v (.ep cs)) :: s.ae,s.boxes,aF s.G id .dead,s.marks,s.ro,s.n⟩)
  | _=>none
 | .v (.agg cs)=>match mT wk cs s.G with
  | (c,cs',G')=>some (c,⟨.put t (.v (.agg cs')) :: s.ae,s.boxes,G',s.marks,s.ro,s.n⟩)
 | _=>none
def iy (cut wk:Bool):List Operand→St→Bool × St
 | [],s=>(true,s)
 | .tmp t :: l,s=>match qh cut wk s t with
  | some (c,s')=>match iy cut wk l s' with
   | (c',s2)=>(c&&c',s2)
  | none=>iy cut wk l s
 | _ :: l,s=>iy cut wk l s
def H9 (E:Env) (f:FuncId) (s:St) (o:Oper):Option (Bool × St):=match o.dst with
 | some d=>if E.zU f (d+262144) then some (iy (E.zU f (d+393216)) (E.zU f (d+458752)) o.op.operands.toList s) else none
 | none=>none
def mU (E:Env) (s:St) (a b:TypeId) (x:SV):Option (Bool × AV):=
 match E.ti a,E.ti b,x with
 | some i,some j,.v x=>match j.k,x with
  | .int k,.int _ n=>some (true,.int k (k.wrap n))
  | .str,.list _ sz es=>match i.k with
   | .sl elem 1 _ _ _=>match E.ti elem with
    | some e=>match e.k with
     | .int .u8=>some ((Nat.beq sz 1 || es.isEmpty)&&allFit (aR.fits (.int .u8)) es,.str (je es))
     | .int .i32=>some ((Nat.beq sz 1 || es.isEmpty)&&allFit (aR.fits (.int .i32)) es,.str (xm es))
     | _=>none
    | none=>none
   | _=>none
  | .str,.kB id off 1 len _=>match i.k,nth s.G id with
   | .sl elem 1 _ _ _,some (.row cs _)=>match E.ti elem with
    | some e=>match e.k with
     | .int .u8=>some (Nat.ble (off+len) cs.length&&allFit (aR.fits (.int .u8)) (eR off (off+len) cs),.str (je (eR off (off+len) cs)))
     | _=>none
    | none=>none
   | _,_=>none
  | _,_=>none
 | _,_,_=>none
def Ia (id sz:Nat):List AV→List Nat→Option (List AV × List Nat)
 | [],fs=>some ([],fs)
 | .list .nil _ [] :: l,fs=>match Ia id sz l (fs++[0]) with
  | some (r,By)=>some (.list (.bk id fs.length) sz [] :: r,By)
  | none=>none
 | .list .full bQ es :: l,fs=>if Nat.beq sz bQ then match Ia id sz l (fs++[es.length]) with
   | some (r,By)=>some (.list (.bk id fs.length) sz es :: r,By)
   | none=>none
  else none
 | _ :: _,_=>none
def wF (e:EK) (k k':AV):Bool:=match ED e k k' with
 | some b=>b
 | none=>false
def gz (e:EK) (k:AV):List (AV × AV)→Bool
 | []=>true
 | (k',_) :: l=>(ED e k k').isSome&&gz e k l
def fR (e:EK) (k:AV):List (AV × AV)→Option AV
 | []=>none
 | (k',v) :: l=>bif wF e k k' then some v else fR e k l
def iO (e:EK) (k v:AV):List (AV × AV)→List (AV × AV)
 | []=>[(k,v)]
 | (k',v') :: l=>bif wF e k k' then (k,v) :: l else (k',v') :: iO e k v l
def eU (e:EK) (k z:AV) (es:List (AV × AV)):AV:=(fR e k es).getD z
def ja (e:EK) (k:AV):List (AV × AV)→Nat
 | []=>0
 | (k',_) :: l=>bif wF e k k' then 0 else ja e k l+1
def kl:List (AV × AV)→Nat→AV→List (AV × AV)
 | [],_,_=>[]
 | (k,_) :: l,0,x=>(k,x) :: l
 | e :: l,n+1,x=>e :: kl l n x
def tX (E:Env) (s:St) (x:SV):Option (Bool × AV):=match x with
 | .v (.ptr id 0)=>match nth s.G id with
  | some (.oG rJ n _ (some i) t)=>match nth s.G rJ with
   | some (.map es)=>some (decide (es.length=n)&&decide (i < n)&&(sC E t (eT es i)).1,.bp [(sC E t (eT es i)).2.1,(sC E t (eT es i)).2.2])
   | _=>none
  | _=>none
 | _=>none
def gP (E:Env) (s:St) (t:TypeId) (m k:SV):Option (Bool × AV × St):=match E.ti t,m,k with
 | some i,.v (.map id),.v k=>match i.k,nth s.G id with
  | .map kt _ (some z),some (.map es)=>match E.ti kt with
   | some j=>if j.ek.plain&&jf j.ek k then
     some (gz j.ek k es,.bp [eU j.ek k z es,.int .i64 (ja j.ek k es:Nat)],s.cg (aF s.G id (.map (iO j.ek k (eU j.ek k z es) es)))) else none
   | none=>none
  | _,_=>none
 | _,_,_=>none
def fe (s:St) (m st x:SV):Option (Bool × St):=match m,st,x with
 | .v (.map id),.v (.int .i64 n),.v v=>match nth s.G id with
  | some (.map es)=>some (decide (0≤n)&&decide (n.toNat < es.length),s.cg (aF s.G id (.map (kl es n.toNat v))))
  | _=>none
 | _,_,_=>none
def ib (E:Env) (f:FuncId) (s:St) (o:Oper):Option (Bool × St):=match o.dst with
 | some d=>if E.zU f (d+524288) then match o.op with
   | .call { callee:=.builtin .append,args,argTypes }=>match mP E s.ae args.toList,argTypes.toList with
    | some [.dD id g off sz len,.list k szy (y :: ys)],[t,u]=>match E.ti t with
     | some i=>match i.k with
      | .sl elem esz _ bI (some z)=>match E.ti elem with
       | some j=>match j.k with
        | .sl e2 nJ _ _ _=>match jO s.G nJ e2 0 with
         | some lP=>match Ia lP nJ (y :: ys) (mA s.G lP),nth s.G id with
          | some (Ib,By),some (.dw es bQ e')=>
           if Nat.beq szy esz&&Nat.beq bQ esz&&Nat.beq e' elem&&Nat.beq sz esz&&Nat.beq t u&&Nat.ble 1 esz&&Nat.ble 1 bI&&Nat.beq z.cells.length esz&&z.a6 then
            some (decide (g=es.length)&&decide (off=0)&&decide (len=g)&&decide ((es.length+(y :: ys).length) * bI≤140737488355328),
             (s.cg (aF (aF s.G lP (.bk By nJ e2)) id (.dw (es++Ib) esz elem))).put o.dst (.v (.dD id (es.length+(y :: ys).length) 0 esz (es.length+(y :: ys).length))))
           else none
          | _,_=>none
         | none=>none
        | _=>none
       | none=>none
      | _=>none
     | none=>none
    | _,_=>none
   | _=>none
  else none
 | none=>none
def vk (E:Env) (f:FuncId) (s:St) (o:Oper):Option (Bool × St):=match o.dst with
 | some d=>if E.zU f (d+524288) then match o.op with
   | .lookup t m k ok=>match E.elg t,E.ti t,bM E s.ae m,bM E s.ae k with
    | some (.bk e sz p),some i,.v (.map id),.v k=>match i.k,nth s.G id with
     | .map kt _ (some (.list .nil _ [])),some (.map es)=>match E.ti kt,jO s.G sz e 0 with
      | some j,some lP=>if j.ek.plain&&jf j.ek k then
        some (gz j.ek k es&&(aR.bk lP sz p).fits (eU j.ek k (.list (.bk lP (mA s.G lP).length) sz []) es),
         (s.cg (aF s.G lP (.bk (mA s.G lP++[0]) sz e))).put o.dst (.v (if ok then .bp [(aR.bk lP sz p).enc ((aR.bk lP sz p).bA (eU j.ek k (.list (.bk lP (mA s.G lP).length) sz []) es)),.bool (fR j.ek k es).isSome]
          else (aR.bk lP sz p).enc ((aR.bk lP sz p).bA (eU j.ek k (.list (.bk lP (mA s.G lP).length) sz []) es)))))
       else none
      | _,_=>none
     | _,_=>none
    | _,_,_,_=>none
   | _=>none
  else none
 | none=>none
def acC (E:Env) (f:FuncId) (d:Option Tmp):Bool:=match d with
 | some d=>E.zU f (d+196608)
 | none=>false
def ap (E:Env) (f:FuncId) (s:St) (o:Oper):Option (Bool × St):=
 match o.op with
 | .move x=>match bM E s.ae x with
  | .v a=>some (true,s.put o.dst (.v a))
  | .lp k off=>some (true,s.put o.dst (.lp k off))
  | .none=>some (true,s.put o.dst .none)
 | .assign x=>match bM E s.ae x with
  | .v a=>some (true,s.put o.dst (.v a))
  | .lp k off=>some (true,s.put o.dst (.lp k off))
  | .none=>some (true,s.put o.dst .none)
 | .pick c a b=>match bM E s.ae c,bM E s.ae a,bM E s.ae b with
  | .v (.bool t),.v x,.v y=>some (true,s.put o.dst (.v (Bv t x y)))
  | _,_,_=>none
 | .alloc e=>match E.ti e with
  | some i=>match i.zero with
   | some z=>if z.a6 then fM E f s o.dst e z.cells else none
   | none=>none
  | none=>none
 | .box t x=>match bM E s.ae x with
  | .v v=>if v.a6 then fM E f s o.dst t v.cells else none
  | _=>none
 | .build t parts=>match nH E s t parts.toList with
  | some v=>some (true,s.put o.dst (.v v))
  | none=>none
 | .buildSlice t len parts=>match cj E s t len parts.toList with
  | some v=>some (true,s.put o.dst (.v v))
  | none=>none
 | .load t a=>match Au E s t (bM E s.ae a) with
  | some (c,v)=>some (c,s.put o.dst (.v v))
  | none=>none
 | .store t a x=>match o.dst,kj E s t (bM E s.ae a) (bM E s.ae x) with
  | none,some (c,s')=>some (c,s')
  | _,_=>none
 | .binOp op t x y _=>match bM E s.ae x,bM E s.ae y with
  | .v a,.v b=>match CG op a b with
   | some (c,v)=>some (c,s.put o.dst (.v v))
   | none=>match eqO E op t a b with
    | some r=>some (true,s.put o.dst (.v (.bool r)))
    | none=>none
  | _,_=>none
 | .unOp op _ x=>match op,bM E s.ae x with
  | .not,.v (.bool b)=>some (true,s.put o.dst (.v (.bool (!b))))
  | .neg,.v (.int k n)=>some (true,s.put o.dst (.v (.int k (k.wrap (0 - n)))))
  | _,_=>none
 | .convert a b x=>match mU E s a b (bM E s.ae x) with
  | some (c,v)=>some (c,s.put o.dst (.v v))
  | none=>none
 | .nilCheck x=>match bM E s.ae x with
  | .v (.ptr id off)=>some (true,s.put o.dst (.v (.ptr id off)))
  | .lp k off=>some (true,s.put o.dst (.lp k off))
  | _=>none
 | .makeFunc (.func g) first captured=>match mP E s.ae first.toList,mP E s.ae captured.toList with
  | some x,some y=>some (true,s.put o.dst (.v (.fn g x y)))
  | _,_=>none
 | .fieldAddr t x j=>match kZ E t (bM E s.ae x) j with
  | some p=>some (true,s.put o.dst p)
  | none=>none
 | .field t x j=>match EQ E t (bM E s.ae x) j with
  | some v=>some (true,s.put o.dst (.v v))
  | none=>none
 | .indexAddr t x ix=>match kY E t (bM E s.ae x) (bM E s.ae ix) with
  | some (c,p)=>some (c,s.put o.dst p)
  | none=>none
 | .index t x ix=>match ER E t (bM E s.ae x) (bM E s.ae ix) with
  | some (c,v)=>some (c,s.put o.dst (.v v))
  | none=>none
 | .slice t x lo hi mx=>match nI E s.ae lo,nI E s.ae hi with
  | some l,some h=>match Bx E t (bM E s.ae x) l h mx with
   | some (c,v)=>some (c,s.put o.dst (.v v))
   | none=>none
  | _,_=>none
 | .extract x i=>match bM E s.ae x with
  | .v (.bp vs)=>match nth vs i with
   | some v=>some (true,s.put o.dst (.v v))
   | none=>none
  | _=>none
 | .makeSlice t l c=>match E.ti t,bM E s.ae l,bM E s.ae c with
  | some i,.v (.int _ n),.v (.int _ m)=>match i.k with
   | .sl elem esz _ bI (some z)=>
    if Nat.beq z.cells.length esz&&Nat.ble 1 esz&&z.a6 then
     if acC E f o.dst then (if z.closed then some (decide (0≤n∧n≤m∧m≤140737488355328∧m * bI≤140737488355328),
      (s.eL (.dw (List.replicate n.toNat z) esz elem)).put o.dst (.v (.dD s.G.length n.toNat 0 esz n.toNat))) else none)
     else some (decide (0≤n∧n≤m∧m≤140737488355328∧m * bI≤140737488355328),
      (s.eL (.row (av (List.replicate m.toNat z)) elem)).put o.dst (.v (.kB s.G.length 0 esz n.toNat m.toNat)))
    else none
   | _=>none
  | _,_,_=>none
 | .lookup t m k ok=>match mc E s t (bM E s.ae m) (bM E s.ae k) with
  | some (v,b)=>some (true,s.put o.dst (.v (if ok then .bp [v,.bool b] else v)))
  | none=>none
 | .mapUpdate t m k x=>match o.dst,fN E s t (bM E s.ae m) (bM E s.ae k) (bM E s.ae x) with
  | none,some s'=>some (true,s')
  | _,_=>none
 | .insert t m k x=>match o.dst,fN E s t (bM E s.ae m) (bM E s.ae k) (bM E s.ae x) with
  | none,some s'=>some (true,s')
  | _,_=>none
 | .entry x=>match tX E s (bM E s.ae x) with
  | some (c,v)=>some (c,s.put o.dst (.v v))
  | none=>none
 | .mapEntry t m k=>match gP E s t (bM E s.ae m) (bM E s.ae k) with
  | some (c,v,s')=>some (c,s'.put o.dst (.v v))
  | none=>none
 | .entryStore _ m st x=>match o.dst,fe s (bM E s.ae m) (bM E s.ae st) (bM E s.ae x) with
  | none,some (c,s')=>some (c,s')
  | _,_=>none
 | .range t x=>match E.ti t,bM E s.ae x with
  | some i,.v (.str l)=>match i.k with
   | .str=>some (true,(s.eL (.gZ l 0)).put o.dst (.v (.ptr s.G.length 0)))
   | _=>none
  | some i,.v (.map id)=>match i.k,nth s.G id with
   | .map _ _ _,some (.map es)=>some (true,(s.eL (.oG id es.length (List.range es.length) none t)).put o.dst (.v (.ptr s.G.length 0)))
   | _,_=>none
  | _,_=>none
 | .next x true=>match me s o.dst (bM E s.ae x) with
  | some s'=>some (true,s')
  | none=>none
 | .makeMap _ none=>some (true,(s.eL (.map [])).put o.dst (.v (.map s.G.length)))
 | .call { callee:=.builtin b,args,argTypes }=>match ib E f s o with
  | some r=>some r
  | none=>match mP E s.ae args.toList with
   | some l=>bV E s o.dst b l argTypes.toList
   | none=>none
 | _=>none
end Go.Am
namespace Go.Am
open Go
inductive TR where
 | bN
 | full (f:Nat)
 | tok (f b c:Nat)
inductive RO where
 | none
 | bN
 | b9 (b:Nat)
 | tok (f b c:Nat)
 | bk (ts:List TR)
def RO.has:RO→Nat→Prop
 | .none,_=>False
 | .bN,_=>False
 | .b9 b,x=>x=b
 | .tok _ b _,x=>x=b
 | .bk ts,x=>∃ j f c,nth ts j=some (.tok f x c)
def jT (sz:Nat) (es:List AV):Prop:=∀ e∈es,e.cells.length=sz∧e.a6=true∧e.closed=true
def dU (sz:Nat) (es:List AV):Prop:=∀ e∈es,e.cells.length=sz∧e.a6=true
theorem jT.g {sz:Nat} {es:List AV} (h:jT sz es):dU sz es:=fun e he=>⟨(h e he).1,(h e he).2.1⟩
structure an where
 I:Nat→Nat→Prop
 obj:List RO
def S7 (b o len cap:Nat):RO→Prop
 | .none=>True
 | .bN=>False
 | .b9 _=>False
 | .tok f b' c'=>len≤f∧(len=f→b=b'∧o=0∧cap=c')
 | .bk _=>False
def Ot (b o len cap:Nat):TR→Prop
 | .bN=>False
 | .full f=>len≤f∧(len=f→cap=len)
 | .tok f b' c'=>len≤f∧(len=f→b=b'∧o=0∧cap=c')
def Yz (b o len cap j:Nat):RO→Prop
 | .none=>True
 | .bN=>False
 | .b9 _=>False
 | .tok _ _ _=>False
 | .bk ts=>∃ t,nth ts j=some t∧Ot b o len cap t
def tY:RO→Prop
 | .none=>True
 | .bN=>False
 | .b9 _=>False
 | .tok _ _ _=>False
 | .bk _=>True
def nK:RO→Prop
 | .none=>True
 | .bN=>True
 | .b9 _=>False
 | .tok f _ _=>1≤f
 | .bk _=>False
def Ic (b o f off sz cap:Nat):RO→Prop
 | .none=>True
 | .bN=>False
 | .b9 _=>False
 | .tok f' b' c'=>f≤f'∧(f=f'→b=b'∧off+cap=c'∧(o=off * sz∨cap=0))
 | .bk _=>False
def JU (b o f i off sz:Nat):RO→Prop
 | .none=>True
 | .bN=>False
 | .b9 _=>False
 | .tok f' b' _=>f≤f'∧(f=f'→b=b'∧o=i * sz+off)
 | .bk _=>False
def Bz (R:an) (k:LK) (b o len cap:Nat):Prop:=match k with
 | .nil=>False
 | .full=>cap=len
 | .lQ=>True
 | .own id=>∃ ro,nth R.obj id=some ro∧S7 b o len cap ro
 | .bk id j=>∃ ro,nth R.obj id=some ro∧Yz b o len cap j ro
mutual
inductive Rel (R:an) (w:World):AV→Value→Prop
 | bool (b:Bool):Rel R w (.bool b) (.bool b)
 | int (k:IntKind) (n:Int):Rel R w (.int k n) (.int k n)
 | str (l:List UInt8):Rel R w (.str l) (.string ⟨⟨l⟩⟩)
 | agg {cs:List AV} {vs:List Value} (h:aQ R w cs vs) (h1:∀ v∈vs,v.oneCell'=true):Rel R w (.agg cs) (.agg ⟨vs⟩)
 | bp {cs:List AV} {vs:List Value} (h:aQ R w cs vs):Rel R w (.bp cs) (.tuple ⟨vs⟩)
 | jd:Rel R w .jd (.pointer none)
 | ptr {id off b:Nat} (h:nth R.obj id=some (.b9 b)):Rel R w (.ptr id off) (.pointer (some ⟨b,off,none⟩))
 | ep {cs:List AV} {b o:Nat} (h:eN R w b o cs):Rel R w (.ep cs) (.pointer (some ⟨b,o,none⟩))
 | km {sz:Nat}:Rel R w (.list .nil sz []) (.slice none 0 0)
 | jA {sz:Nat}:Rel R w (.list .lQ sz []) (.slice none 0 0)
 | nL {sz:Nat} {a:Addr}:Rel R w (.list .lQ sz []) (.slice (some a) 0 0)
 | mV {id sz:Nat} {ro:RO} (h:nth R.obj id=some ro) (ho:nK ro):Rel R w (.list (.own id) sz []) (.slice none 0 0)
 | mB {id j sz:Nat} {ro:RO} (h:nth R.obj id=some ro) (ho:tY ro):Rel R w (.list (.bk id j) sz []) (.slice none 0 0)
 | list {k:LK} {sz:Nat} {es:List AV} {b o len cap:Nat} (h:gQ R w b o sz es) (hl:len=es.length) (hc:len≤cap) (hk:Bz R k b o len cap):Rel R w (.list k sz es) (.slice (some ⟨b,o,none⟩) len cap)
 | kB {id off sz len cap b:Nat} (h:nth R.obj id=some (.b9 b)) (hc:len≤cap):Rel R w (.kB id off sz len cap) (.slice (some ⟨b,off,none⟩) len cap)
 | js {id sz:Nat} {ro:RO} (h:nth R.obj id=some ro) (ho:nK ro):Rel R w (.dD id 0 0 sz 0) (.slice none 0 0)
 | dD {id f off sz len cap b o:Nat} {ro:RO} (h:nth R.obj id=some ro) (ho:Ic b o f off sz cap ro) (hc:len≤cap):Rel R w (.dD id f off sz len) (.slice (some ⟨b,o,none⟩) len cap)
 | gp {id f i off sz b o:Nat} {t:TypeId} {ro:RO} (h:nth R.obj id=some ro) (ho:JU b o f i off sz ro):Rel R w (.gp id f i off sz t) (.pointer (some ⟨b,o,none⟩))
 | kX:Rel R w .kX (.map none)
 | map {id b:Nat} (h:nth R.obj id=some (.b9 b)):Rel R w (.map id) (.map (some b))
 | cI:Rel R w .cI .nilFunc
 | fn {f:FuncId} {xs ys:List AV} {vs us:List Value} (h:aQ R w xs vs) (h':aQ R w ys us):Rel R w (.fn f xs ys) (.func (.func f) ⟨vs⟩ ⟨us⟩)
 | yield {id b:Nat} (h:nth R.obj id=some (.b9 b)):Rel R w (.yield id) (.func (.yield b) #[] #[])
 | oN:Rel R w .oN .nilIface
 | iface {t:TypeId} {v:AV} {c:Value} (h:Rel R w v c):Rel R w (.iface t v) (.iface t c)
inductive aQ (R:an) (w:World):List AV→List Value→Prop
 | nil:aQ R w [] []
 | cons {a:AV} {c:Value} {l:List AV} {cs:List Value} (h:Rel R w a c) (t:aQ R w l cs):aQ R w (a :: l) (c :: cs)
inductive gQ (R:an) (w:World):Nat→Nat→Nat→List AV→Prop
 | nil {b o sz:Nat}:gQ R w b o sz []
 | cons {b o sz:Nat} {e:AV} {es:List AV} (hl:e.cells.length=sz) (ht:e.a6=true) (hk:e.closed=true) (h:eN R w b o e.cells) (t:gQ R w b (o+sz) sz es):gQ R w b o sz (e :: es)
inductive eN (R:an) (w:World):Nat→Nat→List AV→Prop
 | nil {b o:Nat}:eN R w b o []
 | cons {b o:Nat} {a:AV} {c:Value} {l:List AV} (hc:w.cell? ⟨b,o,none⟩=some c) (h1:c.oneCell'=true) (hi:R.I b o) (h:Rel R w a c) (t:eN R w b (o+1) l):eN R w b o (a :: l)
end
def mC:TR→TR→Prop
 | .bN,.bN=>True
 | .bN,.full _=>False
 | .bN,.tok f _ _=>1≤f
 | .full _,.bN=>False
 | .full f,.full f'=>f'=f
 | .full f,.tok f' _ _=>f < f'
 | .tok _ _ _,.bN=>False
 | .tok _ _ _,.full _=>False
 | .tok f b c,.tok f' b' c'=>f≤f'∧(f'=f→b'=b∧c'=c)
theorem mC.refl (t:TR):mC t t:=by cases t <;> simp [mC]
theorem mC.trans {a b c:TR} (h:mC a b) (k:mC b c):mC a c:=by
 cases a <;> cases b <;> cases c <;> simp only [mC] at * <;> omega
def tZ (ts XV:List TR):Prop:=∀ j t,nth ts j=some t→∃ t',nth XV j=some t'∧mC t t'
theorem tZ.refl (ts:List TR):tZ ts ts:=fun _ t h=>⟨t,h,mC.refl t⟩
theorem tZ.trans {a b c:List TR} (h:tZ a b) (k:tZ b c):tZ a c:=fun j t hj=>
 let ⟨_,h1,h2⟩:=h j t hj
 let ⟨t2,k1,k2⟩:=k j _ h1
 ⟨t2,k1,h2.trans k2⟩
def cJ:RO→RO→Prop
 | .none,r=>r=.none
 | .b9 b,r=>r=.b9 b
 | .bN,.none=>True
 | .bN,.bN=>True
 | .bN,.b9 _=>False
 | .bN,.tok f _ _=>1≤f
 | .tok _ _ _,.none=>True
 | .tok _ _ _,.bN=>False
 | .tok _ _ _,.b9 _=>False
 | .tok f b c,.tok f' b' c'=>f≤f'∧(f'=f→b'=b∧c'=c)
 | .bN,.bk _=>False
 | .tok _ _ _,.bk _=>False
 | .bk _,.none=>True
 | .bk _,.bN=>False
 | .bk _,.b9 _=>False
 | .bk _,.tok _ _ _=>False
 | .bk ts,.bk XV=>tZ ts XV
theorem cJ.refl (r:RO):cJ r r:=by cases r <;> simp [cJ,tZ.refl]
theorem cJ.trans {a b c:RO} (h:cJ a b) (k:cJ b c):cJ a c:=by
 cases a with
 | none=>simp only [cJ] at h; subst h; exact k
 | b9 x=>simp only [cJ] at h; subst h; exact k
 | bN=>
  cases b with
  | none=>simp only [cJ] at k; subst k; trivial
  | bN=>exact k
  | b9 z=>exact h.elim
  | tok f' x' y'=>
   cases c with
   | none=>trivial
   | bN=>exact k.elim
   | b9 z=>exact k.elim
   | bk _=>exact k.elim
   | tok f'' x'' y''=>simp only [cJ] at *; omega
  | bk _=>exact h.elim
 | tok f x y=>
  cases b with
  | none=>simp only [cJ] at k; subst k; trivial
  | bN=>exact h.elim
  | b9 z=>exact h.elim
  | tok f' x' y'=>
   cases c with
   | none=>trivial
   | bN=>exact k.elim
   | b9 z=>exact k.elim
   | tok f'' x'' y''=>
    simp only [cJ] at *
    refine ⟨Nat.le_trans h.1 k.1,fun e=>?_⟩
    obtain ⟨h1,h2⟩:=h; obtain ⟨k1,k2⟩:=k
    have e1:f'=f:=by omega
    have e2:f''=f':=by omega
    exact ⟨(k2 e2).1.trans (h2 e1).1,(k2 e2).2.trans (h2 e1).2⟩
   | bk _=>exact k.elim
  | bk _=>exact h.elim
 | bk ts=>
  cases b with
  | none=>simp only [cJ] at k; subst k; trivial
  | bN=>exact h.elim
  | b9 z=>exact h.elim
  | tok f' x' y'=>exact h.elim
  | bk XV=>
   cases c with
   | none=>trivial
   | bN=>exact k.elim
   | b9 z=>exact k.elim
   | tok f' x' y'=>exact k.elim
   | bk ts''=>exact tZ.trans h k
def sD (r r':Loop):Prop:=r'.tmps=r.tmps∧r'.params=r.params∧r'.assign=r.assign∧r'.body=r.body∧r'.defers=r.defers
def hJ (w w':World):Prop:=∀ (b:Nat) (r:Loop),w.heap[b]?=some (Obj.loop r)→∃ r',w'.heap[b]?=some (Obj.loop r')∧sD r r'
theorem hJ.refl (w:World):hJ w w:=fun _ r h=>⟨r,h,rfl,rfl,rfl,rfl,rfl⟩
theorem hJ.trans {w w1 w2:World} (h:hJ w w1) (k:hJ w1 w2):hJ w w2:=fun b r hb=>
 let ⟨_,h1,h2,h3,h4,h5,h6⟩:=h b r hb
 let ⟨r2,k1,k2,k3,k4,k5,k6⟩:=k b _ h1
 ⟨r2,k1,k2.trans h2,k3.trans h3,k4.trans h4,k5.trans h5,k6.trans h6⟩
theorem hJ.old {w w':World} (h:∀ b,b < w.heap.size→w'.heap[b]?=w.heap[b]?):hJ w w':=fun b r hb=>
 ⟨r,(h b (by
  rcases Nat.lt_or_ge b w.heap.size with cu | qi
  ·exact cu
  ·rw [Array.getElem?_eq_none qi] at hb; cases hb)).trans hb,rfl,rfl,rfl,rfl,rfl⟩
structure Ext (R:an) (w:World) (R':an) (w':World):Prop where
 I:∀ b o,R.I b o→R'.I b o
 cell:∀ b o,R.I b o→w'.cell? ⟨b,o,none⟩=w.cell? ⟨b,o,none⟩
 obj:∀ id ro,nth R.obj id=some ro→∃ mQ,nth R'.obj id=some mQ∧cJ ro mQ
 lp:hJ w w'
theorem Ext.refl (R:an) (w:World):Ext R w R w:=⟨fun _ _ h=>h,fun _ _ _=>rfl,fun _ ro h=>⟨ro,h,cJ.refl ro⟩,hJ.refl w⟩
theorem Ext.trans {R R' Ou:an} {w w' S8:World} (h:Ext R w R' w') (k:Ext R' w' Ou S8):Ext R w Ou S8:=
 ⟨fun b o hi=>k.I b o (h.I b o hi),fun b o hi=>(k.cell b o (h.I b o hi)).trans (h.cell b o hi),fun id ro hr=>
  let ⟨_,h1,h2⟩:=h.obj id ro hr
  let ⟨r2,h3,h4⟩:=k.obj id _ h1
  ⟨r2,h3,h2.trans h4⟩,h.lp.trans k.lp⟩
theorem Ext.b9 {R R':an} {w w':World} (h:Ext R w R' w') {id b:Nat} (hb:nth R.obj id=some (.b9 b)):nth R'.obj id=some (.b9 b):=by
 obtain ⟨r,h1,h2⟩:=h.obj id _ hb
 simp only [cJ] at h2
 subst h2
 exact h1
theorem Bz.mono {R R':an} {w w':World} (e:Ext R w R' w') {k:LK} {b o len cap:Nat} (h:Bz R k b o len cap):Bz R' k b o len cap:=by
 cases k with
 | nil=>exact h
 | full=>exact h
 | lQ=>trivial
 | own id=>
  obtain ⟨ro,h1,h2⟩:=h
  obtain ⟨mQ,h3,h4⟩:=e.obj id ro h1
  refine ⟨mQ,h3,?_⟩
  cases ro with
  | none=>simp only [cJ] at h4; subst h4; trivial
  | bN=>exact h2.elim
  | b9 x=>exact h2.elim
  | tok f x y=>
   cases mQ with
   | none=>trivial
   | bN=>exact h4.elim
   | b9 z=>exact h4.elim
   | tok f' x' y'=>
    simp only [cJ,S7] at *
    refine ⟨by omega,fun e=>?_⟩
    have e1:f'=f:=by omega
    have h5:=h2.2 (by omega)
    have h6:=h4.2 e1
    exact ⟨h5.1.trans h6.1.symm,h5.2.1,h5.2.2.trans h6.2.symm⟩
   | bk _=>exact h4.elim
  | bk _=>exact h2.elim
 | bk id j=>
  obtain ⟨ro,h1,h2⟩:=h
  obtain ⟨mQ,h3,h4⟩:=e.obj id ro h1
  refine ⟨mQ,h3,?_⟩
  cases ro with
  | none=>simp only [cJ] at h4; subst h4; trivial
  | bN=>exact h2.elim
  | b9 x=>exact h2.elim
  | tok _ _ _=>exact h2.elim
  | bk ts=>
   cases mQ with
   | none=>trivial
   | bN=>exact h4.elim
   | b9 z=>exact h4.elim
   | tok _ _ _=>exact h4.elim
   | bk XV=>
    obtain ⟨t,k1,k2⟩:=h2
    obtain ⟨t',k3,k4⟩:=h4 j t k1
    refine ⟨t',k3,?_⟩
    cases t with
    | bN=>exact k2.elim
    | full f=>
     cases t' with
     | bN=>exact k4.elim
     | full f'=>simp only [mC,Ot] at *; subst k4; exact k2
     | tok f' x' y'=>simp only [mC,Ot] at *; exact ⟨by omega,fun e=>by omega⟩
    | tok f x y=>
     cases t' with
     | bN=>exact k4.elim
     | full f'=>exact k4.elim
     | tok f' x' y'=>
      simp only [mC,Ot] at *
      refine ⟨by omega,fun e=>?_⟩
      have e1:f'=f:=by omega
      have h5:=k2.2 (by omega)
      have h6:=k4.2 e1
      exact ⟨h5.1.trans h6.1.symm,h5.2.1,h5.2.2.trans h6.2.symm⟩
theorem nK.mono {ro mQ:RO} (h:nK ro) (e:cJ ro mQ):nK mQ:=by
 cases ro with
 | none=>simp only [cJ] at e; subst e; trivial
 | bN=>cases mQ <;> first | trivial | exact e.elim | exact e
 | b9 _=>exact h.elim
 | tok f x y=>
  cases mQ with
  | none=>trivial
  | bN=>exact e.elim
  | b9 z=>exact e.elim
  | tok f' x' y'=>simp only [cJ,nK] at *; omega
  | bk _=>exact e.elim
 | bk _=>exact h.elim
theorem tY.mono {ro mQ:RO} (h:tY ro) (e:cJ ro mQ):tY mQ:=by
 cases ro with
 | none=>simp only [cJ] at e; subst e; trivial
 | bN=>exact h.elim
 | b9 _=>exact h.elim
 | tok _ _ _=>exact h.elim
 | bk ts=>
  cases mQ with
  | none=>trivial
  | bN=>exact e.elim
  | b9 z=>exact e.elim
  | tok _ _ _=>exact e.elim
  | bk XV=>trivial
theorem Ic.mono {b o f off sz cap:Nat} {ro mQ:RO} (h:Ic b o f off sz cap ro) (e:cJ ro mQ):Ic b o f off sz cap mQ:=by
 cases ro with
 | none=>simp only [cJ] at e; subst e; trivial
 | bN=>exact h.elim
 | b9 _=>exact h.elim
 | tok f1 x y=>
  cases mQ with
  | none=>trivial
  | bN=>exact e.elim
  | b9 z=>exact e.elim
  | tok f' x' y'=>
   simp only [cJ,Ic] at *
   refine ⟨by omega,fun k=>?_⟩
   obtain ⟨e1,e2⟩:=e.2 (by omega)
   obtain ⟨h1,h2,h3⟩:=h.2 (by omega)
   exact ⟨h1.trans e1.symm,h2.trans e2.symm,h3⟩
  | bk _=>exact e.elim
 | bk _=>exact h.elim
theorem JU.mono {b o f i off sz:Nat} {ro mQ:RO} (h:JU b o f i off sz ro) (e:cJ ro mQ):JU b o f i off sz mQ:=by
 cases ro with
 | none=>simp only [cJ] at e; subst e; trivial
 | bN=>exact h.elim
 | b9 _=>exact h.elim
 | tok f1 x y=>
  cases mQ with
  | none=>trivial
  | bN=>exact e.elim
  | b9 z=>exact e.elim
  | tok f' x' y'=>
   simp only [cJ,JU] at *
   refine ⟨by omega,fun k=>?_⟩
   obtain ⟨e1,e2⟩:=e.2 (by omega)
   obtain ⟨h1,h2⟩:=h.2 (by omega)
   exact ⟨h1.trans e1.symm,h2⟩
  | bk _=>exact e.elim
 | bk _=>exact h.elim
mutual
theorem Rel.mono {R R':an} {w w':World} (e:Ext R w R' w'):∀ {a:AV} {c:Value},Rel R w a c→Rel R' w' a c
 | _,_,.bool b=>.bool b
 | _,_,.int k n=>.int k n
 | _,_,.str l=>.str l
 | _,_,.agg h h1=>.agg (h.mono e) h1
 | _,_,.bp h=>.bp (h.mono e)
 | _,_,.jd=>.jd
 | _,_,.ptr h=>.ptr (e.b9 h)
 | _,_,.ep h=>.ep (h.mono e)
 | _,_,.km=>.km
 | _,_,.jA=>.jA
 | _,_,.nL=>.nL
 | _,_,.mV h ho=>let ⟨_,h3,h4⟩:=e.obj _ _ h; .mV h3 (ho.mono h4)
 | _,_,.mB h ho=>let ⟨_,h3,h4⟩:=e.obj _ _ h; .mB h3 (ho.mono h4)
 | _,_,.list h hl hc hk=>.list (h.mono e) hl hc (hk.mono e)
 | _,_,.kB h hc=>.kB (e.b9 h) hc
 | _,_,.js h ho=>let ⟨_,h3,h4⟩:=e.obj _ _ h; .js h3 (ho.mono h4)
 | _,_,.dD h ho hc=>let ⟨_,h3,h4⟩:=e.obj _ _ h; .dD h3 (ho.mono h4) hc
 | _,_,.gp h ho=>let ⟨_,h3,h4⟩:=e.obj _ _ h; .gp h3 (ho.mono h4)
 | _,_,.kX=>.kX
 | _,_,.map h=>.map (e.b9 h)
 | _,_,.cI=>.cI
 | _,_,.fn h h'=>.fn (h.mono e) (h'.mono e)
 | _,_,.yield h=>.yield (e.b9 h)
 | _,_,.oN=>.oN
 | _,_,.iface h=>.iface (h.mono e)
theorem aQ.mono {R R':an} {w w':World} (e:Ext R w R' w'):∀ {l:List AV} {cs:List Value},aQ R w l cs→aQ R' w' l cs
 | _,_,.nil=>.nil
 | _,_,.cons h t=>.cons (h.mono e) (t.mono e)
theorem gQ.mono {R R':an} {w w':World} (e:Ext R w R' w'):∀ {b o sz:Nat} {l:List AV},gQ R w b o sz l→gQ R' w' b o sz l
 | _,_,_,_,.nil=>.nil
 | _,_,_,_,.cons hl ht hk h t=>.cons hl ht hk (h.mono e) (t.mono e)
theorem eN.mono {R R':an} {w w':World} (e:Ext R w R' w'):∀ {b o:Nat} {l:List AV},eN R w b o l→eN R' w' b o l
 | _,_,_,.nil=>.nil
 | _,_,_,.cons hc h1 hi h t=>.cons ((e.cell _ _ hi).trans hc) h1 (e.I _ _ hi) (h.mono e) (t.mono e)
end
end Go.Am
namespace Go.Am
open Go
section lists
variable {α:Type}
theorem bf (l:List α) (n:Nat):nth l n=l[n]?:=by
 induction l generalizing n with
 | nil=>simp [nth]
 | cons a l ih=>cases n <;> simp [nth,ih]
theorem gR (l:List α) (n:Nat) (x:α):aF l n x=l.set n x:=by
 induction l generalizing n with
 | nil=>simp [aF]
 | cons a l ih=>cases n <;> simp [aF,ih]
theorem bR {l:List α} {n:Nat} {x:α} (h:nth l n=some x):n < l.length:=by
 rw [bf] at h
 exact (List.getElem?_eq_some_iff.1 h).1
theorem aO {l:List α} {n:Nat} {x y:α} (h:nth l n=some y):nth (aF l n x) n=some x:=by
 have:=bR h
 rw [bf,gR,List.getElem?_set_self this]
theorem bP {l:List α} {n m:Nat} {x:α} (h:n≠m):nth (aF l n x) m=nth l m:=by
 rw [bf,gR,bf,List.getElem?_set_ne h]
theorem dE {l:List α} {n m:Nat} {x y:α} (h:nth (aF l n x) m=some y):(n=m∧y=x∧m < l.length)∨(n≠m∧nth l m=some y):=by
 by_cases e:n=m
 ·subst e
  have hl:=bR h
  rw [gR,List.length_set] at hl
  rw [bf,gR,List.getElem?_set_self hl] at h
  exact .inl ⟨rfl,(Option.some.inj h).symm,hl⟩
 ·rw [bP e] at h
  exact .inr ⟨e,h⟩
@[simp] theorem iP (l:List α) (n:Nat) (x:α):(aF l n x).length=l.length:=by rw [gR,List.length_set]
theorem fB (l:List α) (x:α):nth (l++[x]) l.length=some x:=by rw [bf]; simp
theorem dG {l:List α} {n:Nat} {y x:α} (h:nth l n=some y):nth (l++[x]) n=some y:=by
 have:=bR h
 rw [bf] at *
 rw [List.getElem?_append_left this]
 exact h
theorem aA {l:List α} {n:Nat} {y x:α} (h:nth (l++[x]) n=some y):nth l n=some y∨(n=l.length∧y=x):=by
 rw [bf] at *
 by_cases e:n < l.length
 ·rw [List.getElem?_append_left e] at h; exact .inl h
 ·rw [List.getElem?_append_right (by omega)] at h
  have hl:=(List.getElem?_eq_some_iff.1 h).1
  simp at hl
  have:n - l.length=0:=by omega
  rw [this] at h
  simp at h
  exact .inr ⟨by omega,h.symm⟩
theorem jU:∀ {l:List α} {n:Nat} {x:α},nth l n=some x→aF l n x=l
 | [],_,_,h=>by cases h
 | a :: l,0,x,h=>by cases h; rfl
 | a :: l,n+1,x,h=>by
  show a :: aF l n x=a :: l
  rw [jU (show nth l n=some x from h)]
end lists
def Uf (R:an) (w:World) (YA:bj→Array Value→Prop) (busy:Bool) (pending:Option Code) (ae:bj) (n:Nat) (params:List Tmp) (assign body:Code) (defers:Nat) (done:Bool) (b:Nat):Prop:=
 ∃ (r:Loop) (db:Nat),w.heap[b]?=some (.loop r)∧r.state=(if done then .done else if busy then .busy else .ready)∧r.pending=pending ∧
  YA ae r.tmps∧r.tmps.size=n∧r.params=⟨params⟩∧r.assign=assign∧r.body=body∧r.defers=db∧nth R.obj defers=some (.b9 db)
def qP (R:an) (w:World) (β:Nat→Nat):SV→Value→Prop
 | .none,_=>True
 | .v a,c=>Rel R w a c
 | .lp k off,c=>c=.pointer (some ⟨β k,off,none⟩)
def oX (R:an) (w:World) (β:Nat→Nat) (ae:bj) (tmps:Array Value):Prop:=
 ∀ i,lk ae i≠.none→∃ c,tmps[i]?=some c∧qP R w β (lk ae i) c
def GH:bj→Bool
 | []=>true
 | .put _ (.lp _ _) :: _=>false
 | _ :: l=>GH l
def dP (R:an) (w:World):List (AV × AV)→List MapEntry→Prop
 | [],[]=>True
 | (k,v) :: l,e :: es=>Rel R w k e.key∧Rel R w v e.val∧dP R w l es
 | _,_=>False
def Ax (R:an) (w:World) (sz:Nat) (e:TypeId) (f:Nat):TR→Prop
 | .bN=>f=0
 | .full f'=>f'=f
 | .tok f' b c=>f'=f∧∃ cur,w.heap[b]?=some (.cells cur e (0,0))∧f≤c∧c≤maxLen∧cur.size=c * sz∧∀ o,f * sz≤o→¬ R.I b o
def YB (ts:List TR):Prop:=∀ i j f b c f' c',nth ts i=some (.tok f b c)→nth ts j=some (.tok f' b c')→i=j
def xn (R:an) (w:World) (sz:Nat) (e:TypeId) (fs:List Nat) (ts:List TR):Prop:=
 ts.length=fs.length∧YB ts∧∀ j f t,nth fs j=some f→nth ts j=some t→Ax R w sz e f t
def kn (aC:Array MapEntry) (clock:Nat):Prop:=clock=aC.size∧∀ (i:Nat) (e:MapEntry),aC.toList[i]?=some e→e.born=i
def YC (R:an) (w:World) (rJ n:Nat) (left:List Nat) (cur:Option Nat) (b:Nat):Prop:=
 ∃ bm seen c0,nth R.obj rJ=some (.b9 bm)∧w.heap[b]?=some (.mapIter (some bm) n seen c0)∧(∀ i,i < n→(i∈left↔seen.contains i=false))∧(∀ i∈left,i < n)∧left.Nodup∧n≤c0∧∀ i,cur=some i→seen.back?=some i∧c0=n
def ic (R:an) (w:World):GO→RO→Prop
 | .dead,.none=>True
 | .dead,.bN=>True
 | .dead,.b9 b=>b < w.heap.size
 | .dead,.tok _ b _=>b < w.heap.size
 | .dead,.bk ts=>∀ j f b c,nth ts j=some (.tok f b c)→b < w.heap.size
 | .bk fs sz e,.bk ts=>xn R w sz e fs ts
 | .oG rJ n left cur _,.b9 b=>YC R w rJ n left cur b
 | .tok f _ _,.bN=>f=0
 | .row cs el,.b9 b=>∃ vs,w.heap[b]?=some (.cells ⟨vs⟩ el (0,0))∧aQ R w cs vs∧(∀ v∈vs,v.oneCell'=true)∧∀ o,¬ R.I b o
 | .tok f sz e,.tok f' b c=>f'=f∧∃ cur,w.heap[b]?=some (.cells cur e (0,0))∧f≤c∧c≤maxLen∧cur.size=c * sz∧∀ o,f * sz≤o→¬ R.I b o
 | .dw es _ _,.bN=>es=[]
 | .dw es sz e,.tok f b c=>f=es.length∧dU sz es∧∃ cur vs,w.heap[b]?=some (.cells cur e (0,0))∧f≤c∧c≤maxLen∧cur.size=c * sz∧(∀ o,¬ R.I b o)∧aQ R w (av es) vs∧(∀ v∈vs,v.oneCell'=true)∧cur.toList.take (f * sz)=vs
 | .map es,.b9 b=>∃ aC clock,w.heap[b]?=some (.map aC clock)∧dP R w es aC.toList∧kn aC clock
 | .gZ l pos,.b9 b=>w.heap[b]?=some (.stringIter ⟨⟨l⟩⟩ pos)
 | .loop busy pending _ ae n params assign body defers done,.b9 b=>Uf R w (oX R w (fun _=>0)) busy pending ae n params assign body defers done b∧GH ae=true
 | .defers o,.b9 b=>w.heap[b]?=some (.deferred (if o then some [] else none))
 | _,_=>False
def ko (E:Env) (R:an) (w:World) (g:Nat) (cs:List AV):Prop:=
 eN R w g 0 cs∧(E.gx g=true→R.I g cs.length∧w.cell? ⟨g,cs.length,none⟩=none)
theorem ko.mono {E:Env} {R R':an} {w w':World} {g:Nat} {cs:List AV} (h:ko E R w g cs) (e:Ext R w R' w'):ko E R' w' g cs:=
 ⟨h.1.mono e,fun hx=>⟨e.I _ _ (h.2 hx).1,(e.cell _ _ (h.2 hx).1).trans (h.2 hx).2⟩⟩
structure dQ (E:Env) (R:an) (w:World) (G:List GO):Prop where
 len:R.obj.length=G.length
 obj:∀ id go ro,nth G id=some go→nth R.obj id=some ro→ic R w go ro
 inj:∀ i j ri rj b,nth R.obj i=some ri→nth R.obj j=some rj→ri.has b→rj.has b→i=j
 wf:∀ b o,R.I b o→b < w.heap.size
 cm:∀ g cs,E.cm g=some cs→ko E R w g cs
 lo:E.lo≤w.drawn
def Live (R:an) (b:Nat):Prop:=∃ id ro,nth R.obj id=some ro∧ro.has b
structure Ov (R:an) (w:World) (β:Nat→Nat) (boxes:cP):Prop where
 box:∀ k cs,dO boxes k=some cs→(∃ vs el,w.heap[β k]?=some (.cells ⟨vs⟩ el (0,0))∧aQ R w cs vs∧(∀ v∈vs,v.oneCell'=true))∧(∀ o,¬ R.I (β k) o)∧¬ Live R (β k)
 inj:∀ k k' cs cs',dO boxes k=some cs→dO boxes k'=some cs'→β k=β k'→k=k'
def qQ (R:an):List Nat→List Deferred→Prop
 | [],[]=>True
 | id :: l,d :: ds=>(∃ b,nth R.obj id=some (.b9 b)∧d={ target:=.collected b,args:=#[] })∧qQ R l ds
 | _,_=>False
structure bo (E:Env) (R:an) (w:World) (β:Nat→Nat) (s:St) (a:Act):Prop where
 g:dQ E R w s.G
 b:Ov R w β s.boxes
 t:oX R w β s.ae a.tmps
 n:a.tmps.size=s.n
 d:qQ R s.marks a.defers
def Own (R:an) (β:Nat→Nat) (boxes:cP) (b:Nat):Prop:=
 Live R b∨∃ k cs,dO boxes k=some cs∧β k=b
structure Step (R:an) (w:World) (β:Nat→Nat) (bx:cP) (R':an) (w':World) (β':Nat→Nat) (JV:cP):Prop where
 ext:Ext R w R' w'
 os:w'.os=w.os
 tape:w'.tape=w.tape
 output:w'.output=w.output
 size:w.heap.size≤w'.heap.size
 bJ:∀ b,b < w.heap.size→¬ Own R β bx b→w'.heap[b]?=w.heap[b]?
 own:∀ b,b < w.heap.size→Own R' β' JV b→Own R β bx b
 im:∀ b o,R'.I b o→b < w.heap.size→¬ Own R β bx b→R.I b o
theorem Step.refl (R:an) (w:World) (β:Nat→Nat) (bx:cP):Step R w β bx R w β bx:=
 ⟨Ext.refl R w,rfl,rfl,rfl,Nat.le_refl _,fun _ _ _=>rfl,fun _ _ h=>h,fun _ _ h _ _=>h⟩
theorem Step.trans {R R1 R2:an} {w w1 w2:World} {β β1 β2:Nat→Nat} {x x1 x2:cP}
  (h:Step R w β x R1 w1 β1 x1) (k:Step R1 w1 β1 x1 R2 w2 β2 x2):Step R w β x R2 w2 β2 x2 where
 ext:=h.ext.trans k.ext
 os:=k.os.trans h.os
 tape:=k.tape.trans h.tape
 output:=k.output.trans h.output
 size:=Nat.le_trans h.size k.size
 bJ:=fun b hb hn=>(k.bJ b (Nat.lt_of_lt_of_le hb h.size) (fun ho=>hn (h.own b hb ho))).trans (h.bJ b hb hn)
 own:=fun b hb ho=>h.own b hb (k.own b (Nat.lt_of_lt_of_le hb h.size) ho)
 im:=fun b o hi hb hn=>h.im b o (k.im b o hi (Nat.lt_of_lt_of_le hb h.size) (fun ho=>hn (h.own b hb ho))) hb hn
theorem qP.mono {R R':an} {w w':World} {β:Nat→Nat} (e:Ext R w R' w') {x:SV} {c:Value} (h:qP R w β x c):qP R' w' β x c:=by
 cases x with
 | none=>trivial
 | v a=>exact Rel.mono e h
 | lp k off=>exact h
theorem sE (n:Nat):Nat.beq n n=true:=Nat.beq_refl n
theorem nN {n m:Nat} (h:n≠m):Nat.beq n m=false:=by
 cases hb:Nat.beq n m with
 | true=>exact absurd (Nat.eq_of_beq_eq_true hb) h
 | false=>rfl
theorem aG (l:bj) (d:Nat) (x:SV):lk (.put d x :: l) d=x:=by simp [lk]
theorem aW {l:bj} {d t:Nat} {x:SV} (h:d≠t):lk (.put d x :: l) t=lk l t:=by simp [lk,nN h]
theorem GI {l:bj} {d t:Nat}:(lk (.kill d :: l) t=lk l t∧∀ k off,lk l t=.lp k off→k≠d)∨lk (.kill d :: l) t=.none:=by
 simp only [lk]
 cases h:lk l t with
 | none=>exact .inr rfl
 | v a=>exact .inl ⟨rfl,fun _ _ e=>by cases e⟩
 | lp k off=>
  by_cases hk:k=d
  ·subst hk
   exact .inr (by simp)
  ·exact .inl ⟨by simp [nN hk],fun k' gy e=>by cases e; exact hk⟩
theorem JW (l:cP) (d:Nat) (cs:List AV):dO ((d,cs) :: l) d=some cs:=by simp [dO]
theorem fC {l:cP} {d k:Nat} {cs cs':List AV} (h:dO ((d,cs) :: l) k=some cs'):(d=k∧cs'=cs)∨(d≠k∧dO l k=some cs'):=by
 by_cases e:d=k
 ·subst e
  rw [JW] at h
  exact .inl ⟨rfl,(Option.some.inj h).symm⟩
 ·simp only [dO,nN e,cond_false] at h
  exact .inr ⟨e,h⟩
theorem Ow {l:cP} (h:l.all (fun p=>bg p.2)=true) {k:Nat} {cs:List AV} (hk:dO l k=some cs):bg cs=true:=by
 induction l with
 | nil=>simp [dO] at hk
 | cons x l ih=>
  obtain ⟨d,c⟩:=x
  simp only [List.all_cons,Bool.and_eq_true] at h
  rcases fC hk with ⟨_,rfl⟩ | ⟨_,hk⟩
  ·exact h.1
  ·exact ih h.2 hk
theorem oX.put {R:an} {w:World} {β:Nat→Nat} {ae:bj} {a:Act} (h:oX R w β ae a.tmps) {d:Tmp} {x:SV} {c:Value} (hd:d < a.tmps.size) (hx:qP R w β x c) :
  oX R w β (.put d x :: ae) (a.put (some d) c).tmps:=by
 intro i hi
 by_cases e:d=i
 ·subst e
  rw [aG]
  exact ⟨c,by simp [Act.put,hd],hx⟩
 ·rw [aW e] at hi ⊢
  obtain ⟨c',h1,h2⟩:=h i hi
  refine ⟨c',?_,h2⟩
  simp only [Act.put]
  rw [Array.getElem?_setIfInBounds_ne e]
  exact h1
theorem bo.put {E:Env} {R:an} {w:World} {β:Nat→Nat} {s:St} {a:Act} (h:bo E R w β s a) (dst:Option Tmp) {x:SV} {c:Value} (hx:qP R w β x c) :
  bo E R w β (s.put dst x) (a.put dst c):=by
 cases dst with
 | none=>exact h
 | some d=>
  simp only [St.put]
  cases hb:Nat.blt d s.n with
  | true=>
   have hd:d < a.tmps.size:=by rw [h.n]; exact Nat.le_of_ble_eq_true hb
   exact ⟨h.g,h.b,h.t.put hd hx,by simp [Act.put,h.n],h.d⟩
  | false=>
   have hd:¬ d < a.tmps.size:=by
    rw [h.n]
    intro cu
    have:Nat.blt d s.n=true:=Nat.ble_eq_true_of_le cu
    rw [this] at hb
    cases hb
   have he:a.put (some d) c=a:=by
    simp only [Act.put]
    rw [Array.setIfInBounds_eq_of_size_le (Nat.not_lt.1 hd)]
   rw [he]
   exact h
theorem sF {R:an} {w:World} {v:Value} {a:AV} (h:sw v=some a):Rel R w a v∧v.oneCell'=true:=by
 unfold sw at h
 split at h <;> cases h
 ·exact ⟨.bool _,rfl⟩
 ·exact ⟨.int _ _,rfl⟩
 ·rename_i s
  exact ⟨.str s.data.toList,rfl⟩
 ·exact ⟨.km,rfl⟩
 ·exact ⟨.jd,rfl⟩
 ·exact ⟨.kX,rfl⟩
 ·exact ⟨.cI,rfl⟩
 ·exact ⟨.oN,rfl⟩
theorem nO {R:an} {w:World}:∀ {vs:List Value} {l:List AV},mR vs=some l→aQ R w l vs∧∀ v∈vs,v.oneCell'=true
 | [],l,h=>by simp [mR] at h; subst h; exact ⟨.nil,by simp⟩
 | v :: vs,l,h=>by
  unfold mR at h
  split at h
  ·rename_i a r h1 h2
   cases h
   obtain ⟨k1,k2⟩:=sF (R:=R) (w:=w) h1
   obtain ⟨k3,k4⟩:=nO (R:=R) (w:=w) h2
   exact ⟨.cons k1 k3,by simp [k2]; exact k4⟩
  ·cases h
theorem vl {R:an} {w:World} {v:Value} {a:AV} (h:sx v=some a):Rel R w a v:=by
 unfold sx at h
 split at h
 ·rename_i cs
  split at h
  ·rename_i l hl
   cases h
   obtain ⟨k1,k2⟩:=nO (R:=R) (w:=w) hl
   exact .agg (vs:=cs.toList) k1 k2
  ·cases h
 ·rename_i cs
  split at h
  ·rename_i l hl
   cases h
   obtain ⟨k1,_⟩:=nO (R:=R) (w:=w) hl
   exact .bp (vs:=cs.toList) k1
  ·cases h
 ·exact (sF h).1
theorem aX {E:Env} {R:an} {w:World} {β:Nat→Nat} {s:St} {a:Act} (h:bo E R w β s a) (x:Operand):qP R w β (bM E s.ae x) (a.eval x):=by
 cases x with
 | tmp t=>
  simp only [bM,Act.eval]
  by_cases hn:lk s.ae t=.none
  ·rw [hn]; trivial
  ·obtain ⟨c,h1,h2⟩:=h.t t hn
   have:a.tmps.getD t undef=c:=by simp [Array.getD_eq_getD_getElem?,h1]
   rw [this]
   exact h2
 | const v=>
  simp only [bM,Act.eval]
  cases hc:sx v with
  | none=>trivial
  | some y=>exact vl hc
 | global g=>
  simp only [bM,Act.eval]
  cases hg:E.cm g with
  | none=>trivial
  | some cs=>exact Rel.ep (h.g.cm g cs hg).1
 | func f=>exact Rel.fn .nil .nil
end Go.Am
