/- The abstract machine: its values,its state,and what each operation does (definitions alone). -/
import Derived.CallsIn
import Derived.RangeFuncLeaves
import Derived.Laws.AppendOwn
set_option linter.all false
namespace Go.Am
open Go
inductive LK where
 | nil | full | gX | own (id:Nat) | aM (id j:Nat)
inductive AV where
 | bool (b:Bool)
 | int (k:IntKind) (n:Int)
 | str (s:List UInt8)
 | agg (cs:List AV)
 | bF (vs:List AV)
 | iS
 | ptr (id off:Nat)
 | ep (cs:List AV)
 | list (k:LK) (sz:Nat) (es:List AV)
 | iy (id off sz len cap:Nat)
 | cT (id f off sz len:Nat)
 | gp (id f i off sz:Nat) (t:TypeId)
 | gk (id j sz len:Nat)
 | rp (id j f i off sz:Nat) (t:TypeId)
 | lh
 | map (id:Nat)
 | dB
 | fn (f:FuncId) (first cap:List AV)
 | yield (id:Nat)
 | mV
 | iface (t:TypeId) (v:AV)
def LK.closed:LK→Bool
 | .own _=>false
 | .aM _ _=>false
 | _=>true
mutual
def AV.closed:AV→Bool
 | .agg cs=>ay cs
 | .bF cs=>ay cs
 | .ep cs=>ay cs
 | .list k _ _=>k.closed
 | .fn _ x y=>ay x&&ay y
 | .iface _ v=>v.closed
 | .ptr _ _=>false
 | .iy _ _ _ _ _=>false
 | .cT _ _ _ _ _=>false
 | .gp _ _ _ _ _ _=>false
 | .gk _ _ _ _=>false
 | .rp _ _ _ _ _ _ _=>false
 | .map _=>false
 | .yield _=>false
 | _=>true
def ay:List AV→Bool
 | []=>true
 | a :: l=>a.closed&&ay l
end
mutual
def AV.gq:AV→AV
 | .agg cs=>.agg (kM cs)
 | .bF cs=>.bF (kM cs)
 | .list (.own _) sz es=>.list .gX sz es
 | .list (.aM _ _) sz es=>.list .gX sz es
 | v=>v
def kM:List AV→List AV
 | []=>[]
 | a :: l=>a.gq :: kM l
end
inductive SV where
 | none
 | v (a:AV)
 | lp (key off:Nat)
inductive Ent where
 | put (d:Nat) (x:SV)
 | kill (d:Nat)
abbrev a8:=List Ent
abbrev cp:=List (Nat × List AV)
def lk:a8→Nat→SV
 | [],_=>.none
 | .put d x :: l,t=>bif Nat.beq d t then x else lk l t
 | .kill d :: l,t=>match lk l t with
  | .lp k off=>bif Nat.beq k d then .none else .lp k off
  | x=>x
def cX:cp→Nat→Option (List AV)
 | [],_=>none
 | (d,cs) :: l,k=>bif Nat.beq d k then some cs else cX l k
inductive GO where
 | dead
 | row (cs:List AV) (el:TypeId)
 | tok (f sz:Nat) (e:TypeId)
 | aM (fs:List Nat) (sz:Nat) (e:TypeId)
 | mM (fK n:Nat) (left:List Nat) (cur:Option Nat) (t:TypeId)
 | cK (es:List AV) (sz:Nat) (el:TypeId)
 | gY (rows:List (List AV)) (sz:Nat) (el:TypeId)
 | map (es:List (AV × AV))
 | gf (s:List UInt8) (pos:Nat)
 | loop (busy:Bool) (pending:Option Code) (fn:FuncId) (ae:a8) (n:Nat) (params:List Tmp) (assign body:Code) (defers:Nat) (done:Bool)
 | defers (open_:Bool)
structure St where
 ae:a8
 boxes:cp
 G:List GO
 marks:List Nat
 ro:Option Nat
 n:Nat
def nth {α:Type}:List α→Nat→Option α
 | [],_=>none
 | a :: _,0=>some a
 | _ :: l,n+1=>nth l n
def au {α:Type}:List α→Nat→α→List α
 | [],_,_=>[]
 | _ :: l,0,x=>x :: l
 | a :: l,n+1,x=>a :: au l n x
def takeN {α:Type}:Nat→List α→Option (List α)
 | 0,_=>some []
 | _+1,[]=>none
 | n+1,a :: l=>match takeN n l with
  | some r=>some (a :: r)
  | none=>none
def eI {α:Type}:Nat→List α→List α
 | 0,l=>l
 | _+1,[]=>[]
 | n+1,_ :: l=>eI n l
def DP {α:Type} (off n:Nat) (l:List α):Option (List α):=takeN n (eI off l)
def aY {α:Type}:List α→Nat→List α→List α
 | l,_,[]=>l
 | [],_,_ :: _=>[]
 | _ :: l,0,y :: ys=>y :: aY l 0 ys
 | a :: l,n+1,y :: ys=>a :: aY l n (y :: ys)
def AV.cells:AV→List AV
 | .agg cs=>cs
 | v=>[v]
def AV.one:AV→Bool
 | .agg _=>false
 | .bF _=>false
 | _=>true
def qh:Value→Option AV
 | .bool b=>some (.bool b)
 | .int k n=>some (.int k n)
 | .string s=>some (.str s.data.toList)
 | .slice none 0 0=>some (.list .nil 0 [])
 | .pointer none=>some .iS
 | .map none=>some .lh
 | .nilFunc=>some .dB
 | .nilIface=>some .mV
 | _=>none
def lE:List Value→Option (List AV)
 | []=>some []
 | v :: vs=>match qh v,lE vs with
  | some a,some l=>some (a :: l)
  | _,_=>none
def qi:Value→Option AV
 | .agg cs=>match lE cs.toList with
  | some l=>some (.agg l)
  | none=>none
 | .tuple cs=>match lE cs.toList with
  | some l=>some (.bF l)
  | none=>none
 | v=>qh v
inductive TK where
 | sc
 | int (k:IntKind)
 | str
 | st (fs:List (Nat × Nat × Bool))
 | arr (len esz:Nat) (XC:Bool)
 | sl (elem esz:Nat) (XC:Bool) (a7:Nat) (T2:Option AV)
 | map (key elem:TypeId) (T2:Option AV)
mutual
inductive EK where
 | no
 | bool
 | int
 | str
 | st (fs:PK)
inductive PK where
 | nil
 | cons (off sz:Nat) (ag:Bool) (k:EK) (rest:PK)
end
structure TI where
 k:TK
 size:Nat
 agg:Bool
 zero:Option AV
 ek:EK
def jk:TypeDesc→Bool
 | .struct _=>true
 | .array _ _=>true
 | _=>false
def fieldsOf (P:Program):List Field→Option (List (Nat × Nat × Bool))
 | []=>some []
 | f :: fs=>match P.info? f.type,P.underlying f.type,fieldsOf P fs with
  | some i,some u,some l=>some ((f.offset,i.size,jk u) :: l)
  | _,_,_=>none
def fk (i:TypeInfo):Option AV:=match i.zero with
 | some z=>qi z
 | none=>none
def oJ (P:Program):TypeDesc→Option TK
 | .int k=>some (.int k)
 | .string=>some .str
 | .struct fs=>match fieldsOf P fs.toList with
  | some l=>some (.st l)
  | none=>none
 | .array n e=>match P.info? e,P.underlying e with
  | some i,some u=>some (.arr n i.size (jk u))
  | _,_=>none
 | .slice e=>match P.info? e,P.underlying e with
  | some i,some u=>some (.sl e i.size (jk u) i.bytes (fk i))
  | _,_=>none
 | .map k e=>match P.info? e with
  | some i=>some (.map k e (fk i))
  | none=>none
 | _=>some .sc
def DQ (P:Program) (ek:TypeId→EK):List Field→Option PK
 | []=>some .nil
 | f :: fs => if f.name == "_" then none else match P.info? f.type, P.underlying f.type, DQ P ek fs with
  | some i,some u,some l=>some (.cons f.offset i.size (jk u) (ek f.type) l)
  | _,_,_=>none
def vd (sz:Nat) (ag:Bool) (k:EK):Nat→Nat→PK
 | 0,_=>.nil
 | n+1,i=>.cons (i * sz) sz ag k (vd sz ag k n (i+1))
def oK (P:Program):Nat→TypeId→EK
 | 0,_=>.no
 | n+1,t=>match P.underlying t with
  | some .bool=>.bool
  | some (.int _)=>.int
  | some .string=>.str
  | some (.struct fs)=>if P.stoodInHeld t then .no else match DQ P (oK P n) fs.toList with
   | some l=>.st l
   | none=>.no
  | some (.array m e)=>match P.info? e,P.underlying e with
   | some i,some u=>.st (vd i.size (jk u) (oK P n e) m 0)
   | _,_=>.no
  | _=>.no
def s8 (P:Program) (t:TypeId):EK:=match oK P 6 t with
 | .st l=>if P.eqGuardType P.depth t then .no else .st l
 | k=>k
def He (P:Program) (t:TypeId):Option TI:=
 match P.info? t,P.underlying t with
 | some i,some u=>match oJ P u with
  | some k=>some { k:=k,size:=i.size,agg:=jk u,zero:=fk i,ek:=s8 P t }
  | none=>none
 | _,_=>none
def I0:AV→AV→Bool
 | .bool a,.bool b=>a == b
 | .int k a,.int k' b=>(k == k')&&a == b
 | .str a,.str b=>a == b
 | .iS,.iS=>true
 | .ptr i o,.ptr i' o'=>Nat.beq i i'&&Nat.beq o o'
 | .lh,.lh=>true
 | .map i,.map i'=>Nat.beq i i'
 | .dB,.dB=>true
 | .mV,.mV=>true
 | .iy a b c d e,.iy a' b' c' d' e'=>Nat.beq a a'&&Nat.beq b b'&&Nat.beq c c'&&Nat.beq d d'&&Nat.beq e e'
 | .cT a b c d e,.cT a' b' c' d' e'=>Nat.beq a a'&&Nat.beq c c'&&Nat.beq d d'&&(Nat.beq b b'&&Nat.beq e e')
 | .gp a b c d e t,.gp a' b' c' d' e' t'=>Nat.beq a a'&&Nat.beq b b'&&Nat.beq c c'&&Nat.beq d d'&&Nat.beq e e'&&Nat.beq t t'
 | .gk a b c d,.gk a' b' c' d'=>Nat.beq a a'&&Nat.beq b b'&&Nat.beq c c'&&Nat.beq d d'
 | .rp a b c d e f t,.rp a' b' c' d' e' f' t'=>Nat.beq a a'&&Nat.beq b b'&&Nat.beq c c'&&Nat.beq d d'&&Nat.beq e e'&&Nat.beq f f'&&Nat.beq t t'
 | _,_=>false
mutual
def dI:AV→AV→Bool
 | .fn f x y,.fn f' x' y'=>Nat.beq f f'&&lF x x'&&lF y y'
 | .agg cs,.agg dJ=>lF cs dJ
 | .ep cs,.ep dJ=>lF cs dJ
 | .bF cs,.bF dJ=>lF cs dJ
 | .list .nil a es,.list .nil a' es'=>Nat.beq a a'&&lF es es'
 | .list .full a es,.list .full a' es'=>Nat.beq a a'&&lF es es'
 | .list .gX a es,.list .gX a' es'=>Nat.beq a a'&&lF es es'
 | .list (.own i) a es,.list (.own i') a' es'=>Nat.beq i i'&&Nat.beq a a'&&lF es es'
 | .list (.aM i j) a es,.list (.aM i' j') a' es'=>Nat.beq i i'&&Nat.beq j j'&&Nat.beq a a'&&lF es es'
 | a,b=>I0 a b
def lF:List AV→List AV→Bool
 | [],[]=>true
 | a :: l,b :: r=>dI a b&&lF l r
 | _,_=>false
end
mutual
inductive aj
 | int (k:IntKind)
 | bool
 | str
 | agg (ps:aK)
 | bF (ps:aK)
 | list (sz:Nat) (p:aj)
 | own (id sz:Nat) (p:aj)
 | aM (id sz:Nat) (p:aj)
 | gk (id sz:Nat)
 | mN (v:AV)
 | two (u v:AV)
inductive aK
 | nil
 | cons (p:aj) (ps:aK)
end
def T4 (s:Bool) (α β:Type):Type:=match s with
 | true=>α
 | false=>α × β
def aK.isNil:aK→Bool
 | .nil=>true
 | .cons _ _=>false
mutual
def aj.T:aj→Type
 | .int _=>Int
 | .bool=>Bool
 | .str=>List UInt8
 | .agg ps=>ps.T
 | .bF ps=>ps.T
 | .list _ p=>List p.T
 | .own _ _ p=>List p.T
 | .aM _ _ p=>Nat × List p.T
 | .gk _ _=>Nat × Nat
 | .mN _=>Unit
 | .two _ _=>Bool
def aK.T:aK→Type
 | .nil=>Unit
 | .cons p ps=>T4 ps.isNil p.T ps.T
end
mutual
def aj.enc:(p:aj)→p.T→AV
 | .int k,(n:Int)=>.int k n
 | .bool,(b:Bool)=>.bool b
 | .str,(s:List UInt8)=>.str s
 | .agg ps,x=>.agg (ps.enc x)
 | .bF ps,x=>.bF (ps.enc x)
 | .list sz p,(xs:List p.T)=>.list .gX sz (xs.map p.enc)
 | .own id sz p,(xs:List p.T)=>.list (.own id) sz (xs.map p.enc)
 | .aM id sz p,(x:Nat × List p.T)=>.list (.aM id x.1) sz (x.2.map p.enc)
 | .gk id sz,(x:Nat × Nat)=>.gk id x.1 sz x.2
 | .mN v,_=>v
 | .two u v,(b:Bool)=>bif b then v else u
def aK.enc:(ps:aK)→ps.T→List AV
 | .nil,_=>[]
 | .cons p .nil,x=>[p.enc x]
 | .cons p (.cons q ps),x=>p.enc x.1 :: (aK.cons q ps).enc x.2
end
def Tw:IntKind→IntKind→Bool:=fun a b=>decide (a=b)
def AV.jk:AV→List AV
 | .agg cs=>cs
 | _=>[]
def AV.PL:AV→List AV
 | .bF cs=>cs
 | _=>[]
def AV.cq:AV→List AV
 | .list _ _ es=>es
 | _=>[]
def AV.XD:AV→Nat
 | .list (.aM _ j) _ _=>j
 | _=>0
def AV.XE:AV→Nat × Nat
 | .gk _ j _ len=>(j,len)
 | _=>(0,0)
def AV.pj:AV→Int
 | .int _ n=>n
 | _=>0
def AV.T5:AV→Bool
 | .bool b=>b
 | _=>false
def AV.PM:AV→List UInt8
 | .str s=>s
 | _=>[]
def dC:List AV→AV
 | a :: _=>a
 | []=>.iS
def I1:List AV→List AV
 | _ :: l=>l
 | []=>[]
mutual
def aj.bh:(p:aj)→AV→p.T
 | .int _,v=>v.pj
 | .bool,v=>v.T5
 | .str,v=>v.PM
 | .agg ps,v=>ps.bh v.jk
 | .bF ps,v=>ps.bh v.PL
 | .list _ p,v=>v.cq.map p.bh
 | .own _ _ p,v=>v.cq.map p.bh
 | .aM _ _ p,v=>(v.XD,v.cq.map p.bh)
 | .gk _ _,v=>v.XE
 | .mN _,_=>()
 | .two _ v,a=>dI a v
def aK.bh:(ps:aK)→List AV→ps.T
 | .nil,_=>()
 | .cons p .nil,l=>p.bh (dC l)
 | .cons p (.cons q ps),l=>(p.bh (dC l),(aK.cons q ps).bh (I1 l))
end
def allFit (f:AV→Bool):List AV→Bool
 | []=>true
 | a :: l=>f a&&allFit f l
mutual
def aj.fits:aj→AV→Bool
 | .int k,v=>match v with
  | .int k' _=>Tw k k'
  | _=>false
 | .bool,v=>match v with
  | .bool _=>true
  | _=>false
 | .str,v=>match v with
  | .str _=>true
  | _=>false
 | .agg ps,v=>match v with
  | .agg cs=>ps.fits cs
  | _=>false
 | .bF ps,v=>match v with
  | .bF cs=>ps.fits cs
  | _=>false
 | .list sz p,v=>match v with
  | .list _ a6 es=>(Nat.beq sz a6 || es.isEmpty)&&allFit p.fits es
  | _=>false
 | .own id sz p,v=>match v with
  | .list (.own gZ) a6 es=>(Nat.beq id gZ&&Nat.beq sz a6)&&allFit p.fits es
  | _=>false
 | .aM id sz p,v=>match v with
  | .list (.aM gZ _) a6 es=>(Nat.beq id gZ&&Nat.beq sz a6)&&allFit p.fits es
  | _=>false
 | .gk id sz,v=>match v with
  | .gk gZ _ a6 _=>Nat.beq id gZ&&Nat.beq sz a6
  | _=>false
 | .mN v,u=>dI u v
 | .two u v,a=>dI a u || dI a v
def aK.fits:aK→List AV→Bool
 | .nil,l=>l.isEmpty
 | .cons p ps,l=>match l with
  | a :: l=>p.fits a&&ps.fits l
  | []=>false
end
def aj.dec (p:aj) (v:AV):Option p.T:=bif p.fits v then some (p.bh v) else none
def aK.dec (ps:aK) (l:List AV):Option ps.T:=bif ps.fits l then some (ps.bh l) else none
structure Env where
 P:Program
 ti:TypeId→Option TI
 ck:Nat→Option (List AV)
 vf:FuncId→Tmp→Bool
 Ml:TypeId→Option aj
 lo:Nat:=0
 ZT:FuncId→Tmp→List (Option Nat × Nat × TypeId):=fun _ _=>[]
 Wr:TypeId→Option aj:=fun _=>none
 gx:Nat→Bool:=fun _=>false
 Hf:∀ t i,ti t=some i→He P t=some i
 mixed:P.follows .mixedOrders=true
 vg:∀ g cs,ck g=some cs→ay cs=true
def bp (E:Env) (ae:a8):Operand→SV
 | .tmp t=>lk ae t
 | .const v=>match qi v with
  | some a=>.v a
  | none=>.none
 | .global g=>match E.ck g with
  | some cs=>.v (.ep cs)
  | none=>.none
 | .func f=>.v (.fn f [] [])
def St.put (s:St) (dst:Option Tmp) (x:SV):St:=match dst with
 | some d=>match Nat.blt d s.n with
  | true=>⟨.put d x :: s.ae,s.boxes,s.G,s.marks,s.ro,s.n⟩
  | false=>s
 | none=>s
def fu:AV:=.bF []
def qj (agg:Bool) (cs:List AV):Option AV:=
 if agg then some (.agg cs) else match cs with
  | [c]=>some c
  | _=>none
def mf (s:St):SV→Option (List AV × Nat)
 | .lp k off=>match cX s.boxes k with
  | some cs=>some (cs,off)
  | none=>none
 | .v (.ptr id off)=>match nth s.G id with
  | some (.row cs _)=>some (cs,off)
  | _=>none
 | .v (.ep cs)=>some (cs,0)
 | _=>none
def yZ (n:Nat):SV→Option SV
 | .lp k off=>some (.lp k (off+n))
 | .v (.ptr id off)=>some (.v (.ptr id (off+n)))
 | .v (.ep cs)=>some (.v (.ep (eI n cs)))
 | .v (.gp id f i off sz t)=>some (.v (.gp id f i (off+n) sz t))
 | .v (.rp id j f i off sz t)=>some (.v (.rp id j f i (off+n) sz t))
 | _=>none
def Ao (t:Bool):AV→AV→AV
 | .bool x,.bool y=>.bool (bif t then x else y)
 | .int k x,.int k' y=>if k=k' then .int k (bif t then x else y) else (bif t then .int k x else .int k' y)
 | a,b=>bif t then a else b
def FV (ag:Bool) (off sz:Nat) (cs:List AV):Option AV:=
 if ag then (match DP off sz cs with | some l=>qj true l | none=>none) else (match DP off 1 cs with | some l=>qj false l | none=>none)
mutual
def kF:EK→AV→AV→Option Bool
 | .bool,.bool a,.bool b=>some (a == b)
 | .int,.int k a,.int k' b=>if k=k' then some (a == b) else none
 | .str,.str a,.str b=>some (a == b)
 | .st fs,.agg xs,.agg ys=>sf fs xs ys
 | _,_,_=>none
def sf:PK→List AV→List AV→Option Bool
 | .nil,_,_=>some true
 | .cons off sz ag k rest,xs,ys=>match FV ag off sz xs,FV ag off sz ys with
  | some a,some b=>match kF k a b,sf rest xs ys with
   | some t,some u=>some (t&&u)
   | _,_=>none
  | _,_=>none
end
def Hg (k:IntKind) (a b:Int):Int:=k.wrap (BitVec.ofInt k.bits a &&& BitVec.ofInt k.bits b).toNat
def XF (k:IntKind) (a b:Int):Int:=k.wrap (BitVec.ofInt k.bits a ||| BitVec.ofInt k.bits b).toNat
def Hh (k:IntKind) (a b:Int):Int:=k.wrap (BitVec.ofInt k.bits a ^^^ BitVec.ofInt k.bits b).toNat
def BU (op:BinOp) (x y:AV):Option (Bool × AV):=
 match x,y with
 | .int k a,.int k' b=>
  match op with
  | .shl=>some (decide (0≤b),.int k (k.wrap (a * 2 ^ (min b.toNat k.bits))))
  | .shr=>some (decide (0≤b),.int k (a.fdiv (2 ^ (min b.toNat k.bits))))
  | _=>if k=k' then
    match op with
    | .add=>some (true,.int k (k.wrap (a+b)))
    | .sub=>some (true,.int k (k.wrap (a - b)))
    | .mul=>some (true,.int k (k.wrap (a * b)))
    | .quo=>some (!(decide (b=0)),.int k (k.wrap (a.tdiv b)))
    | .rem=>some (!(decide (b=0)),.int k (a.tmod b))
    | .and=>some (true,.int k (Hg k a b))
    | .or=>some (true,.int k (XF k a b))
    | .xor=>some (true,.int k (Hh k a b))
    | .eql=>some (true,.bool (a == b))
    | .neq=>some (true,.bool (a != b))
    | .lss=>some (true,.bool (a < b))
    | .leq=>some (true,.bool (a≤b))
    | .gtr=>some (true,.bool (a > b))
    | .geq=>some (true,.bool (a≥b))
    | _=>none
   else none
 | .str a,.str b=>
  match op with
  | .add=>some (decide (a.length+b.length≤9223372036854775807),.str (a++b))
  | .eql=>some (true,.bool (a == b))
  | .neq=>some (true,.bool (!(a == b)))
  | .lss=>some (true,.bool (Op.bytesLess a b))
  | .leq=>some (true,.bool (Op.bytesLess a b || a == b))
  | .gtr=>some (true,.bool (!(Op.bytesLess a b || a == b)))
  | .geq=>some (true,.bool (!(Op.bytesLess a b)))
  | _=>none
 | _,_=>none
end Go.Am
namespace Go.Am
open Go
def St.kill (s:St) (d:Nat):St:=⟨.kill d :: s.ae,s.boxes,s.G,s.marks,s.ro,s.n⟩
def AV.aN:AV→Bool
 | .bF _=>false
 | _=>true
def St.df (s:St) (o:GO):St:=⟨s.ae,s.boxes,s.G++[o],s.marks,s.ro,s.n⟩
def St.bn (s:St) (G:List GO):St:=⟨s.ae,s.boxes,G,s.marks,s.ro,s.n⟩
def St.ta (s:St) (d:Nat) (cs:List AV):St:=⟨s.ae,(d,cs) :: s.boxes,s.G,s.marks,s.ro,s.n⟩
def eL (E:Env) (f:FuncId) (s:St) (dst:Option Tmp) (el:TypeId) (cs:List AV):Option (Bool × St):=
 match dst with
 | none=>none
 | some d=>
  if E.vf f d then some (true,(s.df (.row cs el)).put (some d) (.v (.ptr s.G.length 0)))
  else match Nat.blt d s.n with
   | true=>some (true,((s.kill d).ta d cs).put (some d) (.lp d 0))
   | false=>none
def kN (E:Env) (ae:a8):List Operand→Option (List AV)
 | []=>some []
 | x :: l=>match bp E ae x,kN E ae l with
  | .v a,some r=>some (a :: r)
  | _,_=>none
def L4 (E:Env) (ae:a8):List (Nat × Operand)→Option (List (Nat × AV))
 | []=>some []
 | (i,x) :: l=>match bp E ae x,L4 E ae l with
  | .v a,some r=>some ((i,a) :: r)
  | _,_=>none
def placeOf:TK→Nat→Option (Nat × Nat)
 | .st fs,j=>match nth fs j with
  | some (o,sz,_)=>some (o,sz)
  | none=>none
 | .arr _ esz _,j=>some (j * esz,esz)
 | _,_=>none
def tc (place:Nat→Option (Nat × Nat)) (cells:List AV):List (Nat × AV)→Option (List AV)
 | []=>some cells
 | (i,v) :: rest=>match place i with
  | none=>none
  | some (off,sz)=>
   if v.aN&&Nat.beq v.cells.length sz&&Nat.ble (off+sz) cells.length then tc place (aY cells off v.cells) rest else none
def BV (esz:Nat) (es:List AV):List (Nat × AV)→Option (List AV)
 | []=>some es
 | (i,v) :: rest=>
  if v.aN&&Nat.beq v.cells.length esz&&Nat.ble (i+1) es.length&&v.closed then BV esz (au es i v) rest else none
def mg (E:Env) (s:St) (t:TypeId) (parts:List (Nat × Operand)):Option AV:=
 match E.ti t,L4 E s.ae parts with
 | some i,some ps=>match i.zero with
  | some z=>match tc (placeOf i.k) z.cells ps with
   | some cs=>if i.agg&&z.aN then some (.agg cs) else none
   | none=>none
  | none=>none
 | _,_=>none
def za:List (Nat × AV)→List (Nat × AV)
 | []=>[]
 | (i,v) :: l=>(i,v.gq) :: za l
def b8 (E:Env) (s:St) (t:TypeId) (len:Nat) (parts:List (Nat × Operand)):Option AV:=
 match E.ti t,L4 E s.ae parts with
 | some i,some ps=>match i.k with
  | .sl _ esz _ _ (some z)=>
    if Nat.beq z.cells.length esz&&Nat.ble 1 esz&&Nat.ble (len * esz) 16777216&&z.aN&&z.closed then
     match BV esz (List.replicate len z) (za ps) with
     | some es=>some (.list .full esz es)
     | none=>none
    else none
  | _=>none
 | _,_=>none
def qk (E:Env) (s:St) (t:TypeId) (p:SV):Option AV:=
 match E.ti t,mf s p with
 | some i,some (cs,off)=>match DP off i.size cs with
  | some l=>qj i.agg l
  | none=>none
 | _,_=>none
def gl (E:Env) (s:St) (t:TypeId) (p x:SV):Option St:=
 match E.ti t,x with
 | some i,.v v=>
  if v.aN&&Nat.beq v.cells.length i.size then
   match p with
   | .lp k off=>match cX s.boxes k with
    | some cs=>if Nat.ble (off+v.cells.length) cs.length then some (s.ta k (aY cs off v.cells)) else none
    | none=>none
   | .v (.ptr id off)=>match nth s.G id with
    | some (.row cs el)=>if Nat.ble (off+v.cells.length) cs.length then some (s.bn (au s.G id (.row (aY cs off v.cells) el))) else none
    | _=>none
   | _=>none
  else none
 | _,_=>none
def aw (es:List AV) (n:Nat):AV:=match nth es n with
 | some e=>e
 | none=>fu
def hJ:List GO→Nat→TypeId→Nat→Option Nat
 | [],_,_,_=>none
 | .aM _ sz e :: G,a6,e',i=>match hJ G a6 e' (i+1) with
  | some j=>some j
  | none=>bif Nat.beq sz a6&&Nat.beq e e' then some i else none
 | _ :: G,a6,e',i=>hJ G a6 e' (i+1)
def qm:List GO→Nat→TypeId→Nat→Option Nat
 | [],_,_,_=>none
 | .gY _ sz e :: G,a6,e',i=>match qm G a6 e' (i+1) with
  | some j=>some j
  | none=>bif Nat.beq sz a6&&Nat.beq e e' then some i else none
 | _ :: G,a6,e',i=>qm G a6 e' (i+1)
def aj.lst (p:aj) (sz:Nat) (_:TypeId):aj:=.list sz p
def aj.fin (G:List GO):aj→aj
 | .aM e sz p=>match qm G sz e 0 with
  | some id=>.gk id sz
  | none=>match hJ G sz e 0 with
   | some id=>.aM id sz p
   | none=>p.lst sz e
 | .agg ps=>.agg (Ua ps)
 | p=>p
where
 Ua:aK→aK
  | .nil=>.nil
  | .cons p ps=>.cons (match p with
   | .aM e sz q=>match hJ G sz e 0 with
    | some id=>.aM id sz q
    | none=>.aM e sz q
   | p=>p) (Ua ps)
def I2 (E:Env) (G:List GO) (t:TypeId):Option aj:=match E.Wr t with
 | some p=>some (p.fin G)
 | none=>E.Ml t
def vh (E:Env) (s:St) (id f i sz:Nat) (t:TypeId):Option (Bool × AV):=match nth s.G id with
 | some (.cK es a6 _)=>match I2 E s.G t with
  | some p=>if Nat.beq sz a6 then some (decide (f=es.length)&&decide (i < es.length)&&p.fits (aw es i),p.enc (p.bh (aw es i))) else none
  | none=>if Nat.beq sz a6 then some (decide (f=es.length)&&decide (i < es.length),aw es i) else none
 | _=>none
def rowOf (rows:List (List AV)) (j:Nat):List AV:=match nth rows j with
 | some r=>r
 | none=>[]
def vi (E:Env) (s:St) (id j f i sz:Nat) (t:TypeId):Option (Bool × AV):=match nth s.G id with
 | some (.gY rows a6 _)=>match I2 E s.G t with
  | some p=>if Nat.beq sz a6 then some (decide (f=(rowOf rows j).length)&&decide (i < (rowOf rows j).length)&&p.fits (aw (rowOf rows j) i),p.enc (p.bh (aw (rowOf rows j) i))) else none
  | none=>if Nat.beq sz a6 then some (decide (f=(rowOf rows j).length)&&decide (i < (rowOf rows j).length),aw (rowOf rows j) i) else none
 | _=>none
def zb (E:Env) (s:St) (t:TypeId) (p:SV):Option (Bool × AV):=match p with
 | .v (.gp id f i off sz ty)=>match E.ti t,vh E s id f i sz ty with
  | some ti,some (c,v)=>match DP off ti.size v.cells with
   | some l=>match qj ti.agg l with
    | some r=>some (c,r)
    | none=>none
   | none=>none
  | _,_=>none
 | .v (.rp id j f i off sz ty)=>match E.ti t,vi E s id j f i sz ty with
  | some ti,some (c,v)=>match DP off ti.size v.cells with
   | some l=>match qj ti.agg l with
    | some r=>some (c,r)
    | none=>none
   | none=>none
  | _,_=>none
 | p=>match qk E s t p with
  | some v=>some (true,v)
  | none=>none
def er (E:Env) (s:St) (t:TypeId) (p x:SV):Option (Bool × St):=match p with
 | .v (.gp id f i off sz ty)=>match E.ti t,x,nth s.G id with
  | some ti,.v x,some (.cK es a6 el)=>
   if x.aN&&Nat.beq x.cells.length ti.size&&Nat.beq sz a6 then
    if Nat.beq off 0&&Nat.beq ti.size sz then some (decide (f=es.length)&&decide (i < es.length),s.bn (au s.G id (.cK (au es i x) a6 el)))
    else match vh E s id f i sz ty with
     | some (c,.agg cs)=>if Nat.ble (off+ti.size) cs.length&&Nat.beq cs.length sz then some (c,s.bn (au s.G id (.cK (au es i (.agg (aY cs off x.cells))) a6 el))) else none
     | _=>none
   else none
  | _,_,_=>none
 | .v (.rp id j f i off sz ty)=>match E.ti t,x,nth s.G id with
  | some ti,.v x,some (.gY rows a6 el)=>
   if x.aN&&Nat.beq x.cells.length ti.size&&Nat.beq sz a6 then
    if Nat.beq off 0&&Nat.beq ti.size sz then some (decide (f=(rowOf rows j).length)&&decide (i < (rowOf rows j).length)&&x.closed,s.bn (au s.G id (.gY (au rows j (au (rowOf rows j) i x)) a6 el)))
    else match vi E s id j f i sz ty with
     | some (c,.agg cs)=>if Nat.ble (off+ti.size) cs.length&&Nat.beq cs.length sz then some (c&&(AV.agg (aY cs off x.cells)).closed,s.bn (au s.G id (.gY (au rows j (au (rowOf rows j) i (.agg (aY cs off x.cells)))) a6 el))) else none
     | _=>none
   else none
  | _,_,_=>none
 | p=>match gl E s t p x with
  | some s'=>some (true,s')
  | none=>none
def pn (s:St) (p x:SV):Bool × SV × List GO:=match p,x with
 | .v (.gp _ _ _ 0 1 _),.v (.cT id f 0 sz len)=>match nth s.G id with
  | some (.cK es a6 _)=>(decide (f=es.length)&&decide (len=es.length)&&Nat.beq sz a6&&ay es,.v (.list .gX sz es),au s.G id .dead)
  | _=>(true,x,s.G)
 | _,_=>(true,x,s.G)
def jl (E:Env) (s:St) (t:TypeId) (p x:SV):Option (Bool × St):=match er E (s.bn (pn s p x).2.2) t p (pn s p x).2.1 with
 | some (c,s')=>some ((pn s p x).1&&c,s')
 | none=>none
def jW (E:Env) (t:TypeId) (x ix:SV):Option (Bool × SV):=
 match E.ti t,ix with
 | some i,.v (.int _ n)=>match i.k,x with
  | .sl _ esz _ _ _,.v (.list _ sz es)=>if Nat.beq sz esz || es.isEmpty then
    match E.Ml t with
    | some p=>some (decide (0≤n∧n < es.length)&&p.fits (aw es n.toNat),.v (.ep (p.enc (p.bh (aw es n.toNat))).cells))
    | none=>some (decide (0≤n∧n < es.length),.v (.ep (aw es n.toNat).cells))
   else none
  | .sl _ esz _ _ _,.v (.iy id off sz len _)=>if Nat.beq sz esz then some (decide (0≤n∧n < len),.v (.ptr id (off+n.toNat * sz))) else none
  | .sl _ esz _ _ _,.v (.cT id f off sz len)=>if Nat.beq sz esz then some (decide (0≤n∧n < len),.v (.gp id f (off+n.toNat) 0 sz t)) else none
  | .sl _ esz _ _ _,.v (.gk id j sz len)=>if Nat.beq sz esz then some (decide (0≤n∧n < len),.v (.rp id j len n.toNat 0 sz t)) else none
  | .arr len esz _,.v (.ep cs)=>match E.Ml t with
   | some p=>if Nat.beq esz 1&&Nat.ble len cs.length then some (decide (0≤n∧n < len)&&p.fits (aw cs n.toNat),.v (.ep [p.enc (p.bh (aw cs n.toNat))])) else none
   | none=>some (decide (0≤n∧n < len),.v (.ep (eI (n.toNat * esz) cs)))
  | .arr len esz _,p=>match yZ (n.toNat * esz) p with
   | some q=>some (decide (0≤n∧n < len),q)
   | none=>none
  | _,_=>none
 | _,_=>none
def jX (E:Env) (t:TypeId) (x:SV) (j:Nat):Option SV:=
 match E.ti t with
 | some i=>match i.k with
  | .st fs=>match nth fs j with
   | some (o,sz,_)=>if Nat.ble 1 sz then yZ o x else none
   | none=>none
  | _=>none
 | none=>none
def DR (E:Env) (t:TypeId) (x:SV) (j:Nat):Option AV:=
 match E.ti t,x with
 | some i,.v (.agg cs)=>match i.k with
  | .st fs=>match nth fs j with
   | some (o,sz,ag)=>if ag then (match DP o sz cs with | some l=>qj true l | none=>none) else (match DP o 1 cs with | some l=>qj false l | none=>none)
   | none=>none
  | _=>none
 | _,_=>none
def DS (E:Env) (t:TypeId) (x ix:SV):Option (Bool × AV):=
 match E.ti t,x,ix with
 | some i,.v (.str l),.v (.int _ n)=>match i.k with
  | .str=>some (decide (0≤n∧n < l.length),.int .u8 (l.getD n.toNat 0).toNat)
  | _=>none
 | some i,.v (.agg cs),.v (.int _ n)=>match i.k with
  | .arr len esz ag=>match (if ag then (match DP (n.toNat * esz) esz cs with | some l=>qj true l | none=>none) else (match DP (n.toNat * esz) 1 cs with | some l=>qj false l | none=>none)) with
   | some v=>some (decide (0≤n∧n < len),v)
   | none=>none
  | _=>none
 | _,_,_=>none
def vj (y:Nat):SV→Option (Bool × Nat)
 | .v (.int _ n)=>some (decide (0≤n∧n≤y),n.toNat)
 | _=>none
def po {α:Type} (lo hi:Nat) (l:List α):List α:=(l.take hi).drop lo
def kG (E:Env) (ae:a8):Option Operand→Option (Option SV)
 | none=>some none
 | some x=>some (some (bp E ae x))
def Ap (len:Nat) (lo hi:Option SV):Option (Bool × Nat × Nat):=
 match (match hi with | none=>some (true,len) | some h=>vj len h) with
 | none=>none
 | some (c1,h)=>match (match lo with | none=>some (true,0) | some l=>vj h l) with
  | none=>none
  | some (c2,l)=>some (c1&&c2,l,h)
def Ub (agg:Bool) (l:List AV):AV:=match agg with
 | true=>.agg l
 | false=>dC l
def gG (agg:Bool) (sz:Nat):Nat→List AV→List AV
 | 0,_=>[]
 | n+1,cs=>Ub agg (cs.take sz) :: gG agg sz n (cs.drop sz)
def DU (ag:Bool) (e:AV):Bool:=e.aN&&(ag || e.one)&&e.closed
def Aq (E:Env) (t:TypeId) (x:SV) (lo hi:Option SV) (mx:Option Operand):Option (Bool × AV):=
 match E.ti t,mx with
 | some i,none=>match i.k,x with
  | .str,.v (.str l)=>match Ap l.length lo hi with
   | some (c,a,b)=>some (c,.str (po a b l))
   | none=>none
  | .sl _ esz _ _ _,.v (.list k sz es)=>
   if Nat.beq sz esz || es.isEmpty then
    match Ap es.length lo hi with
    | some (c,a,b)=>some (c,.list (match k with | .nil=>.nil | .full=>(match hi with | none=>.full | some _=>.gX) | _=>.gX) esz (po a b es))
    | none=>none
   else none
  | .sl _ esz _ _ _,.v (.iy id off sz len cap)=>
   if Nat.beq sz esz then
    match Ap len lo hi with
    | some (c,a,b)=>some (c,.iy id (bif Nat.beq cap a then off else off+a * sz) sz (b - a) (cap - a))
    | none=>none
   else none
  | .sl _ esz _ _ _,.v (.cT id f off sz len)=>
   if Nat.beq sz esz then
    match Ap len lo hi with
    | some (c,a,b)=>some (c,.cT id f (off+a) sz (b - a))
    | none=>none
   else none
  | .arr len esz ag,.v (.ep cs)=>match lo,hi with
   | none,none=>if Nat.ble (len * esz) cs.length&&Nat.ble 1 esz&&(ag || Nat.beq esz 1)&&allFit (DU ag) (gG ag esz len cs) then some (true,.list .full esz (gG ag esz len cs)) else none
   | _,_=>none
  | _,_=>none
 | _,_=>none
def I3 (G:List GO) (id n:Nat) (f sz:Nat) (e:TypeId):List GO:=au G id (.tok (f+n) sz e)
def Hi (fs:List Nat) (j n:Nat):List Nat:=bif Nat.beq j fs.length then fs++[n] else au fs j n
def Mm (fs:List Nat) (j n:Nat):Bool:=decide (nth fs j=some n) || (Nat.beq j fs.length&&Nat.beq n 0)
def dH (G:List GO) (elem esz a7:Nat) (x:AV) (ys:List AV):Option (Bool × AV × List GO):=
 match x,ys with
 | .list k sz es,[]=>match k with
  | .nil=>some (true,.list .nil sz es,G)
  | k=>some (true,.list k sz es,G)
 | .list k sz es,y :: ys=>
  match k with
  | .nil=>some (decide ((es.length+(y :: ys).length) * a7≤140737488355328),.list (.own G.length) esz (es++(y :: ys)),G++[.tok (es.length+(y :: ys).length) esz elem])
  | .full=>if Nat.beq sz esz then some (decide ((es.length+(y :: ys).length) * a7≤140737488355328),.list (.own G.length) esz (es++(y :: ys)),G++[.tok (es.length+(y :: ys).length) esz elem]) else none
  | .own id=>match nth G id with
   | some (.tok f a6 e')=>if Nat.beq a6 esz&&Nat.beq e' elem&&Nat.beq sz esz then
     some (decide (f=es.length)&&decide ((es.length+(y :: ys).length) * a7≤140737488355328),.list (.own id) esz (es++(y :: ys)),I3 G id (y :: ys).length f esz elem) else none
   | _=>none
  | .aM id j=>match nth G id with
   | some (.aM fs a6 e')=>if Nat.beq a6 esz&&Nat.beq e' elem&&Nat.beq sz esz then
     some (Mm fs j es.length&&decide ((es.length+(y :: ys).length) * a7≤140737488355328),.list (.aM id j) esz (es++(y :: ys)),au G id (.aM (Hi fs j (es.length+(y :: ys).length)) esz elem)) else none
   | _=>none
  | .gX=>none
 | .cT id f off sz len,[]=>some (true,.cT id f off sz len,G)
 | .cT id f off sz len,y :: ys=>match nth G id with
  | some (.cK es a6 e')=>if Nat.beq a6 esz&&Nat.beq e' elem&&Nat.beq sz esz then
    some (decide (f=es.length)&&decide (off=0)&&decide (len=f)&&decide ((es.length+(y :: ys).length) * a7≤140737488355328),.cT id (es.length+(y :: ys).length) 0 esz (es.length+(y :: ys).length),au G id (.cK (es++(y :: ys)) esz elem)) else none
  | _=>none
 | .gk id j sz len,[]=>some (true,.gk id j sz len,G)
 | .gk id j sz len,y :: ys=>match nth G id with
  | some (.gY rows a6 e')=>if Nat.beq a6 esz&&Nat.beq e' elem&&Nat.beq sz esz then
    some (decide (j < rows.length)&&decide (len=(rowOf rows j).length)&&decide (((rowOf rows j).length+(y :: ys).length) * a7≤140737488355328),.gk id j esz (len+(y :: ys).length),au G id (.gY (au rows j (rowOf rows j++(y :: ys))) esz elem)) else none
  | _=>none
 | _,_=>none
def qn (b:UInt8):AV:=.int .u8 b.toNat
def pq (es:List AV):List UInt8:=es.map fun a=>UInt8.ofNat a.pj.toNat
def vk (es:List AV):List UInt8:=es.flatMap fun a=>(Utf8.encode a.pj).data.toList
def Hj:AV→List AV→Option AV
 | x,[]=>some x
 | .int k x,.int k' y :: l=>if k=k' then Hj (.int k (if y > x then y else x)) l else none
 | _,_=>none
def DV:AV→List AV→Option AV
 | x,[]=>some x
 | .int k x,.int k' y :: l=>if k=k' then DV (.int k (if y < x then y else x)) l else none
 | .str x,.str y :: l=>DV (.str (bif Op.bytesLess x y || x == y then x else y)) l
 | _,_=>none
def ar:List AV→List AV
 | []=>[]
 | e :: es=>e.cells++ar es
def qo (s:St) (esz:Nat) (d x:AV):Option (Nat × List GO):=
 match d with
 | .iy id off sz len _=>match nth s.G id with
  | some (.row cs el)=>
   if Nat.beq sz esz then
    match x with
    | .list _ a6 es=>if Nat.beq a6 esz || es.isEmpty then
      let n:=Nat.min es.length len
      let l:=ar (es.take n)
      if Nat.ble (off+l.length) cs.length then some (n,au s.G id (.row (aY cs off l) el)) else none
     else none
    | .str bs=>
      if Nat.beq esz 1&&Nat.ble (off+(bs.take (Nat.min bs.length len)).length) cs.length then some (Nat.min bs.length len,au s.G id (.row (aY cs off ((bs.take (Nat.min bs.length len)).map qn)) el)) else none
    | .iy gZ fe a6 DW _=>match nth s.G gZ with
     | some (.row dJ _)=>
      let n:=Nat.min DW len
      match DP fe (n * esz) dJ with
      | some l=>if Nat.beq a6 esz&&Nat.ble (off+l.length) cs.length then some (n,au s.G id (.row (aY cs off l) el)) else none
      | none=>none
     | _=>none
    | _=>none
   else none
  | _=>none
 | .cT id f off sz len=>match nth s.G id,x with
  | some (.cK es a6 el),.list _ XG xs=>if Nat.beq sz esz&&Nat.beq a6 sz&&(Nat.beq XG esz || xs.isEmpty)&&Nat.ble f es.length&&Nat.ble es.length f&&Nat.ble (off+Nat.min xs.length len) es.length then
    some (Nat.min xs.length len,au s.G id (.cK (aY es off (xs.take (Nat.min xs.length len))) a6 el)) else none
  | _,_=>none
 | _=>none
def bS (E:Env) (s:St) (dst:Option Tmp) (b:Builtin) (args:List AV) (tys:List TypeId):Option (Bool × St):=
 match b,args with
 | .len,[x]=>match tys with
  | t :: _=>match E.ti t with
   | some i=>match i.k,x with
    | .str,.str l=>some (true,s.put dst (.v (.int .i64 l.length)))
    | .sl ..,.list _ _ es=>some (true,s.put dst (.v (.int .i64 es.length)))
    | .sl ..,.iy _ _ _ len _=>some (true,s.put dst (.v (.int .i64 len)))
    | .sl ..,.cT _ _ _ _ len=>some (true,s.put dst (.v (.int .i64 len)))
    | .sl ..,.gk _ _ _ len=>some (true,s.put dst (.v (.int .i64 len)))
    | .arr n _ _,_=>some (true,s.put dst (.v (.int .i64 n)))
    | .map ..,.lh=>some (true,s.put dst (.v (.int .i64 0)))
    | .map ..,.map id=>match nth s.G id with
     | some (.map es)=>some (true,s.put dst (.v (.int .i64 es.length)))
     | _=>none
    | _,_=>none
   | none=>none
  | _=>none
 | .append,[x,.list _ sz ys]=>match tys with
  | [t,u]=>match E.ti t with
   | some i=>match i.k with
    | .sl elem esz _ a7 (some z)=>
     if (Nat.beq sz esz || ys.isEmpty)&&Nat.beq t u&&Nat.ble 1 esz&&Nat.ble 1 a7&&Nat.beq z.cells.length esz&&z.aN then
      match dH s.G elem esz a7 x ys with
      | some (c,v,G')=>some (c,(s.bn G').put dst (.v v))
      | none=>none
     else none
    | _=>none
   | none=>none
  | _=>none
 | .append,[x,.str bs]=>match tys with
  | [t,u]=>match E.ti t,E.ti u with
   | some i,some j=>match i.k,j.k with
    | .sl elem esz _ a7 (some z),.str=>
     if Nat.beq esz 1&&Nat.ble 1 a7&&Nat.beq z.cells.length esz&&z.aN then
      match dH s.G elem esz a7 x (bs.map qn) with
      | some (c,v,G')=>some (c,(s.bn G').put dst (.v v))
      | none=>none
     else none
    | _,_=>none
   | _,_=>none
  | _=>none
 | .append,[.cT id f off sz len,.iy Tx 0 1 1 _]=>match nth s.G Tx,tys with
  | some (.row [.gk y1 y2 y3 y4] _),[t,u]=>match E.ti t with
   | some i=>match i.k with
    | .sl elem esz _ a7 (some z)=>
     if Nat.beq esz 1&&Nat.beq t u&&Nat.ble 1 a7&&Nat.beq z.cells.length esz&&z.aN then
      match dH s.G elem esz a7 (.cT id f off sz len) [.gk y1 y2 y3 y4] with
      | some (c,v,G')=>some (c,(s.bn G').put dst (.v v))
      | none=>none
     else none
    | _=>none
   | none=>none
  | _,_=>none
 | .append,[x,.cT id f 0 sz len]=>match nth s.G id,tys with
  | some (.cK ys a6 _),[t,u]=>match E.ti t with
   | some i=>match i.k with
    | .sl elem esz _ a7 (some z)=>
     if Nat.beq sz a6&&Nat.beq sz esz&&Nat.beq f ys.length&&Nat.beq len ys.length&&ay ys&&Nat.beq t u&&Nat.ble 1 esz&&Nat.ble 1 a7&&Nat.beq z.cells.length esz&&z.aN then
      match dH s.G elem esz a7 x ys with
      | some (c,v,G')=>some (c,(s.bn G').put dst (.v v))
      | none=>none
     else none
    | _=>none
   | none=>none
  | _,_=>none
 | .copy,[d,x]=>match tys with
  | t :: _=>match E.ti t with
   | some i=>match i.k with
    | .sl _ esz _ _ _=>match qo s esz d x with
     | some (n,G')=>some (true,(s.bn G').put dst (.v (.int .i64 n)))
     | none=>none
    | _=>none
   | none=>none
  | _=>none
 | .clear,[x]=>match dst,tys,x with
  | none,[t],.cT id f off sz len=>match E.ti t,nth s.G id with
   | some i,some (.cK es a6 el)=>match i.k with
    | .sl elem esz _ _ (some z)=>if Nat.beq sz esz&&Nat.beq a6 sz&&Nat.beq el elem&&Nat.beq z.cells.length esz&&z.aN&&z.closed then
      some (decide (f=es.length)&&decide (off+len≤es.length),s.bn (au s.G id (.cK (aY es off (List.replicate len z)) a6 el))) else none
    | _=>none
   | _,_=>none
  | _,_,_=>none
 | .max,x :: l=>match Hj x l with
  | some v=>some (true,s.put dst (.v v))
  | none=>none
 | .min,x :: l=>match DV x l with
  | some v=>some (true,s.put dst (.v v))
  | none=>none
 | _,_=>none
def EK.plain:EK→Bool
 | .bool | .int | .str=>true
 | .st _=>true
 | _=>false
def EK.wide:EK→Bool
 | .st _=>true
 | _=>false
def gC:AV→Bool
 | .bool _=>true
 | .int _ _=>true
 | .str _=>true
 | _=>false
def ni:AV→AV→Bool
 | .bool a,.bool b=>a == b
 | .int k a,.int l b=>decide (k=l)&&a == b
 | .str a,.str b=>a == b
 | _,_=>false
def lG:List AV→List AV→Bool
 | [],[]=>true
 | a :: l,b :: r=>ni a b&&lG l r
 | _,_=>false
def kO:AV→AV→Bool
 | .agg xs,.agg ys=>lG xs ys
 | _,_=>false
def DA (e:EK) (a b:AV):Option Bool:=match kF e a b with
 | some true=>bif e.wide&&!kO a b then none else some true
 | r=>r
def iz (e:EK) (k:AV):List (AV × AV)→Option (Option AV)
 | []=>some none
 | (k',v) :: l=>match DA e k k' with
  | some true=>some (some v)
  | some false=>iz e k l
  | none=>none
def sg (e:EK) (k v:AV):List (AV × AV)→Option (List (AV × AV))
 | []=>some [(k,v)]
 | (k',v') :: l=>match DA e k k' with
  | some true=>some ((k,v) :: l)
  | some false=>match sg e k v l with
   | some r=>some ((k',v') :: r)
   | none=>none
  | none=>none
def hU:EK→AV→Bool
 | .bool,.bool _=>true
 | .int,.int _ _=>true
 | .str,.str _=>true
 | .st fs,.agg cs=>cs.all gC&&(sf fs cs cs).isSome
 | _,_=>false
def mapOf (s:St):SV→Option (List (AV × AV))
 | .v .lh=>some []
 | .v (.map id)=>match nth s.G id with
  | some (.map es)=>some es
  | _=>none
 | _=>none
def hX (G:List GO) (id:Nat):List Nat:=match nth G id with
 | some (.aM fs _ _)=>fs
 | _=>[]
def BW (E:Env) (G:List GO) (t:TypeId) (z:AV):AV:=match E.Wr t,z with
 | some (.aM e sz _),.list .nil _ []=>match hJ G sz e 0 with
  | some id=>.list (.aM id (hX G id).length) sz []
  | none=>z
 | _,_=>z
def iT (E:Env) (s:St) (t:TypeId) (m k:SV):Option (AV × Bool):=match E.ti t,mapOf s m,k with
 | some i,some es,.v k=>match i.k with
  | .map kt _ (some z)=>match E.ti kt with
   | some j=>if j.ek.plain&&hU j.ek k then match iz j.ek k es with
     | some (some v)=>some (v,true)
     | some none=>some (z,false)
     | none=>none
    else none
   | none=>none
  | _=>none
 | _,_,_=>none
def kP (E:Env) (s:St) (t:TypeId) (m k:SV):Option (AV × Bool):=match iT E s t m k with
 | some (v,false)=>some (BW E s.G t v,false)
 | r=>r
def eN (E:Env) (s:St) (t:TypeId) (m k x:SV):Option St:=match E.ti t,m,k,x with
 | some i,.v (.map id),.v k,.v x=>match i.k,nth s.G id with
  | .map kt _ _,some (.map es)=>match E.ti kt with
   | some j=>if j.ek.plain&&hU j.ek k then match sg j.ek k x es with
     | some es'=>some (s.bn (au s.G id (.map es')))
     | none=>none
    else none
   | none=>none
  | _,_=>none
 | _,_,_,_=>none
def bJ (l:List UInt8) (pos:Nat):Nat × Nat:=
 bif Nat.blt (l.getD pos 0).toNat 128 then ((l.getD pos 0).toNat,1) else Utf8.decode ⟨⟨l⟩⟩ pos
def kQ (s:St) (dst:Option Tmp) (x:SV):Option St:=match x with
 | .v (.ptr id 0)=>match nth s.G id with
  | some (.gf l pos)=>bif Nat.blt pos l.length then
    match bJ l pos with
    | (c,n)=>some ((s.bn (au s.G id (.gf l (pos+n)))).put dst (.v (.bF [.bool true,.int .i64 pos,.int .i32 c])))
   else some (s.put dst (.v (.bF [.bool false])))
  | _=>none
 | _=>none
def dD (es:List (AV × AV)) (i:Nat):AV × AV:=match nth es i with
 | some e=>e
 | none=>(fu,fu)
def PN (E:Env) (kt:TypeId):Option aj:=match E.Ml kt with
 | some p=>some p
 | none=>match E.ti kt with
  | some i=>match i.k with
   | .int k=>some (.int k)
   | .str=>some .str
   | _=>none
  | none=>none
def qp (E:Env) (t:TypeId) (e:AV × AV):Bool × AV × AV:=match E.ti t with
 | some i=>match i.k with
  | .map kt _ _=>match E.Ml t,PN E kt with
   | some pv,some pk=>(pk.fits e.1&&pv.fits e.2,pk.enc (pk.bh e.1),pv.enc (pv.bh e.2))
   | _,_=>(true,e.1,e.2)
  | _=>(true,e.1,e.2)
 | none=>(true,e.1,e.2)
def zd (E:Env) (s:St) (dst:Option Tmp) (x:SV):Option (Bool × St × List Nat × (Nat→Bool × St)):=match x with
 | .v (.ptr id 0)=>match nth s.G id with
  | some (.mM fK n left _ t)=>match nth s.G fK with
   | some (.map es)=>some (decide (es.length=n),s.put dst (.v (.bF [.bool false])),left,
     fun i=>((qp E t (dD es i)).1,(s.bn (au s.G id (.mM fK n (left.erase i) (some i) t))).put dst (.v (.bF [.bool true,(qp E t (dD es i)).2.1,(qp E t (dD es i)).2.2]))))
   | _=>none
  | _=>none
 | _=>none
def sh (E:Env) (s:St) (o:Oper):Option (Bool × St × List Nat × (Nat→Bool × St)):=match o.op with
 | .next x false=>zd E s o.dst (bp E s.ae x)
 | _=>none
def Mn:AV→Option Bool
 | .list .nil _ _=>some true
 | .list .full _ _=>some false
 | .list _ _ (_ :: _)=>some false
 | .iy _ _ _ _ _=>some false
 | .cT _ _ _ _ (_+1)=>some false
 | .iS=>some true
 | .ptr _ _=>some false
 | .ep _=>some false
 | _=>none
def DX:AV→Option Bool
 | .list .nil _ []=>some true
 | .iS=>some false
 | _=>none
def PO (P:Program) (t:TypeId):Bool:=match P.underlying t with
 | some (.slice _)=>true
 | _=>false
def PP (P:Program) (t:TypeId):Bool:=match P.underlying t with
 | some (.pointer _)=>true
 | _=>false
def Ws:AV→Bool
 | .list _ _ _=>true
 | .iy _ _ _ _ _=>true
 | .cT _ _ _ _ _=>true
 | _=>false
def td (P:Program) (t:TypeId) (a b:AV):Bool:=match DX b with
 | some true=>Ws a&&PO P t
 | some false=>!Ws a&&PP P t
 | none=>false
def PQ (E:Env) (op:BinOp) (t:TypeId) (a b:AV):Option Bool:=match op,Mn a with
 | .eql,some r=>bif td E.P t a b then some r else none
 | .neq,some r=>bif td E.P t a b then some (!r) else none
 | _,_=>none
def XH (E:Env) (op:BinOp) (t:TypeId) (a b:AV):Option Bool:=match op,E.ti t with
 | .eql,some i=>kF i.ek a b
 | .neq,some i=>match kF i.ek a b with
  | some r=>some (!r)
  | none=>none
 | _,_=>none
def jG (E:Env) (s:St) (t:TypeId) (len:Nat) (parts:List (Nat × Operand)):Option (List AV):=
 match E.ti t,L4 E s.ae parts with
 | some i,some ps=>match i.k with
  | .sl _ esz _ _ (some z)=>
    if Nat.beq z.cells.length esz&&Nat.ble 1 esz&&Nat.ble (len * esz) 16777216&&z.aN then
     tc (fun i=>some (i * esz,esz)) (ar (List.replicate len z)) (za ps)
    else none
  | _=>none
 | _,_=>none
def iU (E:Env) (f:FuncId) (s:St) (o:Oper):Option St:=match o.op with
 | .buildSlice t len parts=>match o.dst with
  | some d=>if E.vf f d then match E.ti t with
    | some i=>match i.k,b8 E s t len parts.toList with
     | .sl elem _ _ _ _,some (.list _ esz es)=>some ((s.df (.row (ar es) elem)).put (some d) (.v (.iy s.G.length 0 esz len len)))
     | .sl elem esz _ _ _,none=>match jG E s t len parts.toList with
      | some cs=>some ((s.df (.row cs elem)).put (some d) (.v (.iy s.G.length 0 esz len len)))
      | none=>none
     | _,_=>none
    | none=>none
   else if E.vf f (d+196608) then match E.ti t with
    | some i=>match i.k,b8 E s t len parts.toList with
     | .sl elem _ _ _ _,some (.list _ esz es)=>if Nat.ble len 65536 then some ((s.df (.cK es esz elem)).put (some d) (.v (.cT s.G.length len 0 esz len))) else none
     | _,_=>none
    | none=>none
   else if E.vf f (d+65536) then match E.ti t with
    | some i=>match i.k,b8 E s t len parts.toList with
     | .sl elem _ _ _ _,some (.list _ esz es)=>if Nat.ble len 65536 then some ((s.df (.tok len esz elem)).put (some d) (.v (.list (.own s.G.length) esz es))) else none
     | _,_=>none
    | none=>none
   else none
  | none=>none
 | _=>none
def ze (wk:Bool) (es:List AV):List AV:=match wk with
 | true=>es.map AV.gq
 | false=>es
def lH (wk:Bool):List AV→List GO→Bool × List AV × List GO
 | [],G=>(true,[],G)
 | .cT id f 0 sz len :: l,G=>match nth G id with
  | some (.cK es a6 _)=>match lH wk l (au G id .dead) with
   | (c,r,G')=>(decide (f=es.length)&&decide (len=es.length)&&Nat.beq sz a6&&ay (ze wk es)&&c,.list .gX sz (ze wk es) :: r,G')
  | _=>match lH wk l G with
   | (_,r,G')=>(false,r,G')
 | a :: l,G=>match lH wk l G with
  | (c,r,G')=>(c,a :: r,G')
def mh (cut wk:Bool) (s:St) (t:Tmp):Option (Bool × St):=match lk s.ae t with
 | .v (.cT id f off sz len)=>match nth s.G id with
  | some (.cK es a6 _)=>if Nat.beq off 0&&Nat.beq sz a6 then
    some (decide (f=es.length)&&(bif cut then decide (len≤es.length) else decide (len=es.length))&&ay (ze wk es),⟨.put t (.v (.list .gX sz (ze wk (bif cut then es.take len else es)))) :: s.ae,s.boxes,au s.G id .dead,s.marks,s.ro,s.n⟩) else none
  | _=>none
 | .v (.ptr id 0)=>match nth s.G id with
  | some (.row cs _)=>some (ay cs,⟨.put t (.v (.ep cs)) :: s.ae,s.boxes,au s.G id .dead,s.marks,s.ro,s.n⟩)
  | _=>none
 | .v (.agg cs)=>match lH wk cs s.G with
  | (c,dJ,G')=>some (c,⟨.put t (.v (.agg dJ)) :: s.ae,s.boxes,G',s.marks,s.ro,s.n⟩)
 | _=>none
def gD (cut wk:Bool):List Operand→St→Bool × St
 | [],s=>(true,s)
 | .tmp t :: l,s=>match mh cut wk s t with
  | some (c,s')=>match gD cut wk l s' with
   | (c',s2)=>(c&&c',s2)
  | none=>gD cut wk l s
 | _ :: l,s=>gD cut wk l s
def Hk (E:Env) (f:FuncId) (s:St) (o:Oper):Option (Bool × St):=match o.dst with
 | some d=>if E.vf f (d+262144) then some (gD (E.vf f (d+393216)) (E.vf f (d+458752)) o.op.operands.toList s) else none
 | none=>none
def lI (E:Env) (s:St) (a b:TypeId) (x:SV):Option (Bool × AV):=
 match E.ti a,E.ti b,x with
 | some i,some j,.v x=>match j.k,x with
  | .int k,.int _ n=>some (true,.int k (k.wrap n))
  | .str,.list _ sz es=>match i.k with
   | .sl elem 1 _ _ _=>match E.ti elem with
    | some e=>match e.k with
     | .int .u8=>some ((Nat.beq sz 1 || es.isEmpty)&&allFit (aj.fits (.int .u8)) es,.str (pq es))
     | .int .i32=>some ((Nat.beq sz 1 || es.isEmpty)&&allFit (aj.fits (.int .i32)) es,.str (vk es))
     | _=>none
    | none=>none
   | _=>none
  | .str,.iy id off 1 len _=>match i.k,nth s.G id with
   | .sl elem 1 _ _ _,some (.row cs _)=>match E.ti elem with
    | some e=>match e.k with
     | .int .u8=>some (Nat.ble (off+len) cs.length&&allFit (aj.fits (.int .u8)) (po off (off+len) cs),.str (pq (po off (off+len) cs)))
     | _=>none
    | none=>none
   | _,_=>none
  | _,_=>none
 | _,_,_=>none
def Hl (id sz:Nat):List AV→List Nat→Option (List AV × List Nat)
 | [],fs=>some ([],fs)
 | .list .nil _ [] :: l,fs=>match Hl id sz l (fs++[0]) with
  | some (r,Ar)=>some (.list (.aM id fs.length) sz [] :: r,Ar)
  | none=>none
 | .list .full a6 es :: l,fs=>if Nat.beq sz a6 then match Hl id sz l (fs++[es.length]) with
   | some (r,Ar)=>some (.list (.aM id fs.length) sz es :: r,Ar)
   | none=>none
  else none
 | _ :: _,_=>none
def uL (e:EK) (k k':AV):Bool:=match DA e k k' with
 | some b=>b
 | none=>false
def cH (e:EK) (k:AV):List (AV × AV)→Bool
 | []=>true
 | (k',_) :: l=>(DA e k k').isSome&&cH e k l
def eU (e:EK) (k:AV):List (AV × AV)→Option AV
 | []=>none
 | (k',v) :: l=>bif uL e k k' then some v else eU e k l
def bi (e:EK) (k v:AV):List (AV × AV)→List (AV × AV)
 | []=>[(k,v)]
 | (k',v') :: l=>bif uL e k k' then (k,v) :: l else (k',v') :: bi e k v l
def bu (e:EK) (k z:AV) (es:List (AV × AV)):AV:=(eU e k es).getD z
def gr (e:EK) (k:AV):List (AV × AV)→Nat
 | []=>0
 | (k',_) :: l=>bif uL e k k' then 0 else gr e k l+1
def hY:List (AV × AV)→Nat→AV→List (AV × AV)
 | [],_,_=>[]
 | (k,_) :: l,0,x=>(k,x) :: l
 | e :: l,n+1,x=>e :: hY l n x
def si (E:Env) (s:St) (x:SV):Option (Bool × AV):=match x with
 | .v (.ptr id 0)=>match nth s.G id with
  | some (.mM fK n _ (some i) t)=>match nth s.G fK with
   | some (.map es)=>some (decide (es.length=n)&&decide (i < n)&&(qp E t (dD es i)).1,.bF [(qp E t (dD es i)).2.1,(qp E t (dD es i)).2.2])
   | _=>none
  | _=>none
 | _=>none
def fL (E:Env) (s:St) (t:TypeId) (m k:SV):Option (Bool × AV × St):=match E.ti t,m,k with
 | some i,.v (.map id),.v k=>match i.k,nth s.G id with
  | .map kt _ (some z),some (.map es)=>match E.ti kt with
   | some j=>if j.ek.plain&&hU j.ek k then
     some (cH j.ek k es,.bF [bu j.ek k z es,.int .i64 (gr j.ek k es:Nat)],s.bn (au s.G id (.map (bi j.ek k (bu j.ek k z es) es)))) else none
   | none=>none
  | _,_=>none
 | _,_,_=>none
def dM (s:St) (m st x:SV):Option (Bool × St):=match m,st,x with
 | .v (.map id),.v (.int .i64 n),.v v=>match nth s.G id with
  | some (.map es)=>some (decide (0≤n)&&decide (n.toNat < es.length),s.bn (au s.G id (.map (hY es n.toNat v))))
  | _=>none
 | _,_,_=>none
def gu (E:Env) (f:FuncId) (s:St) (o:Oper):Option (Bool × St):=match o.dst with
 | some d=>if E.vf f (d+524288) then match o.op with
   | .call { callee:=.builtin .append,args,argTypes }=>match kN E s.ae args.toList,argTypes.toList with
    | some [.cT id g off sz len,.list k ZU (y :: ys)],[t,u]=>match E.ti t with
     | some i=>match i.k with
      | .sl elem esz _ a7 (some z)=>match E.ti elem with
       | some j=>match j.k with
        | .sl e2 iu _ _ _=>match hJ s.G iu e2 0 with
         | some iA=>match Hl iA iu (y :: ys) (hX s.G iA),nth s.G id with
          | some (Hm,Ar),some (.cK es a6 e')=>
           if Nat.beq ZU esz&&Nat.beq a6 esz&&Nat.beq e' elem&&Nat.beq sz esz&&Nat.beq t u&&Nat.ble 1 esz&&Nat.ble 1 a7&&Nat.beq z.cells.length esz&&z.aN then
            some (decide (g=es.length)&&decide (off=0)&&decide (len=g)&&decide ((es.length+(y :: ys).length) * a7≤140737488355328),
             (s.bn (au (au s.G iA (.aM Ar iu e2)) id (.cK (es++Hm) esz elem))).put o.dst (.v (.cT id (es.length+(y :: ys).length) 0 esz (es.length+(y :: ys).length))))
           else none
          | _,_=>none
         | none=>none
        | _=>none
       | none=>none
      | _=>none
     | none=>none
    | _,_=>none
   | _=>none
  else none
 | none=>none
def pt (E:Env) (f:FuncId) (s:St) (o:Oper):Option (Bool × St):=match o.dst with
 | some d=>if E.vf f (d+524288) then match o.op with
   | .lookup t m k ok=>match E.Wr t,E.ti t,bp E s.ae m,bp E s.ae k with
    | some (.aM e sz p),some i,.v (.map id),.v k=>match i.k,nth s.G id with
     | .map kt _ (some (.list .nil _ [])),some (.map es)=>match E.ti kt,hJ s.G sz e 0 with
      | some j,some iA=>if j.ek.plain&&hU j.ek k then
        some (cH j.ek k es&&(aj.aM iA sz p).fits (bu j.ek k (.list (.aM iA (hX s.G iA).length) sz []) es),
         (s.bn (au s.G iA (.aM (hX s.G iA++[0]) sz e))).put o.dst (.v (if ok then .bF [(aj.aM iA sz p).enc ((aj.aM iA sz p).bh (bu j.ek k (.list (.aM iA (hX s.G iA).length) sz []) es)),.bool (eU j.ek k es).isSome]
          else (aj.aM iA sz p).enc ((aj.aM iA sz p).bh (bu j.ek k (.list (.aM iA (hX s.G iA).length) sz []) es)))))
       else none
      | _,_=>none
     | _,_=>none
    | _,_,_,_=>none
   | _=>none
  else none
 | none=>none
def DY (E:Env) (f:FuncId) (s:St) (o:Oper):Option (Bool × St):=match o.op,o.dst with
 | .slice t x (some lo) none none,some d=>if E.vf f (d+524288) then match E.ti t,bp E s.ae x,bp E s.ae lo with
   | some i,.v (.list (.own id) sz es),.v (.int _ n)=>match i.k,nth s.G id with
    | .sl _ esz _ _ _,some (.tok f0 a6 e)=>
     if Nat.beq sz esz&&Nat.beq a6 sz then
      some (decide (f0=es.length)&&(decide (0 < es.length)&&decide (0≤n∧n≤es.length)),(s.bn (au s.G id .dead++[.tok (es.length - n.toNat) sz e])).put (some d) (.v (.list (.own s.G.length) sz (es.drop n.toNat))))
     else none
    | _,_=>none
   | _,_,_=>none
  else none
 | _,_=>none
def te (E:Env) (f:FuncId) (s:St) (o:Oper):Option (Bool × St):=match DY E f s o with
 | some r=>some r
 | none=>pt E f s o
def XI (E:Env) (f:FuncId) (d:Option Tmp):Bool:=match d with
 | some d=>E.vf f (d+196608)
 | none=>false
def om:List GO→Nat→TypeId→Nat→Option Nat
 | [],_,_,_=>none
 | .cK es sz e :: G,a6,e',i=>match om G a6 e' (i+1) with
  | some j=>some j
  | none=>bif Nat.beq sz a6&&Nat.beq e e' then (match es with
   | []=>some i
   | _=>none) else none
 | _ :: G,a6,e',i=>om G a6 e' (i+1)
def XJ (E:Env) (f:FuncId) (d:Option Tmp):Bool:=match d with
 | some d=>E.vf f (d+589824)
 | none=>false
def mi (s:St) (dst:Option Tmp) (elem esz a7:Nat) (z:AV) (n m:Int):Option (Bool × St):=match om s.G esz elem 0 with
 | some id=>if z.closed then some (decide (1≤n∧n≤m∧m≤140737488355328∧m * a7≤140737488355328),(s.bn (au s.G id (.cK (List.replicate n.toNat z) esz elem))).put dst (.v (.cT id n.toNat 0 esz n.toNat))) else none
 | none=>none
def ao (E:Env) (f:FuncId) (s:St) (o:Oper):Option (Bool × St):=
 match o.op with
 | .move x=>match bp E s.ae x with
  | .v a=>some (true,s.put o.dst (.v a))
  | .lp k off=>some (true,s.put o.dst (.lp k off))
  | .none=>some (true,s.put o.dst .none)
 | .assign x=>match bp E s.ae x with
  | .v a=>some (true,s.put o.dst (.v a))
  | .lp k off=>some (true,s.put o.dst (.lp k off))
  | .none=>some (true,s.put o.dst .none)
 | .pick c a b=>match bp E s.ae c,bp E s.ae a,bp E s.ae b with
  | .v (.bool t),.v x,.v y=>some (true,s.put o.dst (.v (Ao t x y)))
  | _,_,_=>none
 | .alloc e=>match E.ti e with
  | some i=>match i.zero with
   | some z=>if z.aN then eL E f s o.dst e z.cells else none
   | none=>none
  | none=>none
 | .box t x=>match bp E s.ae x with
  | .v v=>if v.aN then eL E f s o.dst t v.cells else none
  | _=>none
 | .build t parts=>match mg E s t parts.toList with
  | some v=>some (true,s.put o.dst (.v v))
  | none=>none
 | .buildSlice t len parts=>match b8 E s t len parts.toList with
  | some v=>some (true,s.put o.dst (.v v))
  | none=>none
 | .load t a=>match zb E s t (bp E s.ae a) with
  | some (c,v)=>some (c,s.put o.dst (.v v))
  | none=>none
 | .store t a x=>match o.dst,jl E s t (bp E s.ae a) (bp E s.ae x) with
  | none,some (c,s')=>some (c,s')
  | _,_=>none
 | .binOp op t x y _=>match bp E s.ae x,bp E s.ae y with
  | .v a,.v b=>match BU op a b with
   | some (c,v)=>some (c,s.put o.dst (.v v))
   | none=>match XH E op t a b with
    | some r=>some (true,s.put o.dst (.v (.bool r)))
    | none=>match PQ E op t a b with
     | some r=>some (true,s.put o.dst (.v (.bool r)))
     | none=>none
  | _,_=>none
 | .unOp op _ x=>match op,bp E s.ae x with
  | .not,.v (.bool b)=>some (true,s.put o.dst (.v (.bool (!b))))
  | .neg,.v (.int k n)=>some (true,s.put o.dst (.v (.int k (k.wrap (0 - n)))))
  | _,_=>none
 | .convert a b x=>match lI E s a b (bp E s.ae x) with
  | some (c,v)=>some (c,s.put o.dst (.v v))
  | none=>none
 | .nilCheck x=>match bp E s.ae x with
  | .v (.ptr id off)=>some (true,s.put o.dst (.v (.ptr id off)))
  | .v (.ep cs)=>some (true,s.put o.dst (.v (.ep cs)))
  | .lp k off=>some (true,s.put o.dst (.lp k off))
  | _=>none
 | .makeFunc (.func g) first captured=>match kN E s.ae first.toList,kN E s.ae captured.toList with
  | some x,some y=>some (true,s.put o.dst (.v (.fn g x y)))
  | _,_=>none
 | .fieldAddr t x j=>match jX E t (bp E s.ae x) j with
  | some p=>some (true,s.put o.dst p)
  | none=>none
 | .field t x j=>match DR E t (bp E s.ae x) j with
  | some v=>some (true,s.put o.dst (.v v))
  | none=>none
 | .indexAddr t x ix=>match jW E t (bp E s.ae x) (bp E s.ae ix) with
  | some (c,p)=>some (c,s.put o.dst p)
  | none=>none
 | .index t x ix=>match DS E t (bp E s.ae x) (bp E s.ae ix) with
  | some (c,v)=>some (c,s.put o.dst (.v v))
  | none=>none
 | .slice t x lo hi mx=>match kG E s.ae lo,kG E s.ae hi with
  | some l,some h=>match Aq E t (bp E s.ae x) l h mx with
   | some (c,v)=>some (c,s.put o.dst (.v v))
   | none=>none
  | _,_=>none
 | .extract x i=>match bp E s.ae x with
  | .v (.bF vs)=>match nth vs i with
   | some v=>some (true,s.put o.dst (.v v))
   | none=>none
  | _=>none
 | .makeSlice t l c=>match E.ti t,bp E s.ae l,bp E s.ae c with
  | some i,.v (.int _ n),.v (.int _ m)=>match i.k with
   | .sl elem esz _ a7 (some z)=>
    if Nat.beq z.cells.length esz&&Nat.ble 1 esz&&z.aN then
     if XJ E f o.dst then mi s o.dst elem esz a7 z n m
     else if XI E f o.dst then (if z.closed then some (decide (0≤n∧n≤m∧m≤140737488355328∧m * a7≤140737488355328),
      (s.df (.cK (List.replicate n.toNat z) esz elem)).put o.dst (.v (.cT s.G.length n.toNat 0 esz n.toNat))) else none)
     else some (decide (0≤n∧n≤m∧m≤140737488355328∧m * a7≤140737488355328),
      (s.df (.row (ar (List.replicate m.toNat z)) elem)).put o.dst (.v (.iy s.G.length 0 esz n.toNat m.toNat)))
    else none
   | _=>none
  | _,_,_=>none
 | .lookup t m k ok=>match kP E s t (bp E s.ae m) (bp E s.ae k) with
  | some (v,b)=>some (true,s.put o.dst (.v (if ok then .bF [v,.bool b] else v)))
  | none=>none
 | .mapUpdate t m k x=>match o.dst,eN E s t (bp E s.ae m) (bp E s.ae k) (bp E s.ae x) with
  | none,some s'=>some (true,s')
  | _,_=>none
 | .insert t m k x=>match o.dst,eN E s t (bp E s.ae m) (bp E s.ae k) (bp E s.ae x) with
  | none,some s'=>some (true,s')
  | _,_=>none
 | .entry x=>match si E s (bp E s.ae x) with
  | some (c,v)=>some (c,s.put o.dst (.v v))
  | none=>none
 | .mapEntry t m k=>match fL E s t (bp E s.ae m) (bp E s.ae k) with
  | some (c,v,s')=>some (c,s'.put o.dst (.v v))
  | none=>none
 | .entryStore _ m st x=>match o.dst,dM s (bp E s.ae m) (bp E s.ae st) (bp E s.ae x) with
  | none,some (c,s')=>some (c,s')
  | _,_=>none
 | .range t x=>match E.ti t,bp E s.ae x with
  | some i,.v (.str l)=>match i.k with
   | .str=>some (true,(s.df (.gf l 0)).put o.dst (.v (.ptr s.G.length 0)))
   | _=>none
  | some i,.v (.map id)=>match i.k,nth s.G id with
   | .map _ _ _,some (.map es)=>some (true,(s.df (.mM id es.length (List.range es.length) none t)).put o.dst (.v (.ptr s.G.length 0)))
   | _,_=>none
  | _,_=>none
 | .next x true=>match kQ s o.dst (bp E s.ae x) with
  | some s'=>some (true,s')
  | none=>none
 | .makeMap _ none=>some (true,(s.df (.map [])).put o.dst (.v (.map s.G.length)))
 | .call { callee:=.builtin b,args,argTypes }=>match gu E f s o with
  | some r=>some r
  | none=>match kN E s.ae args.toList with
   | some l=>bS E s o.dst b l argTypes.toList
   | none=>none
 | _=>none
end Go.Am
namespace Go.Am
open Go
inductive TR where
 | aR
 | full (f:Nat)
 | tok (f b c:Nat)
inductive RO where
 | none
 | aR
 | bw (b:Nat)
 | tok (f b c k:Nat)
 | aM (ts:List TR)
def RO.has:RO→Nat→Prop
 | .none,_=>False
 | .aR,_=>False
 | .bw b,x=>x=b
 | .tok _ b _ _,x=>x=b
 | .aM ts,x=>∃ j f c,nth ts j=some (.tok f x c)
def fq (sz:Nat) (es:List AV):Prop:=∀ e∈es,e.cells.length=sz∧e.aN=true∧e.closed=true
def da (sz:Nat) (es:List AV):Prop:=∀ e∈es,e.cells.length=sz∧e.aN=true
theorem fq.g {sz:Nat} {es:List AV} (h:fq sz es):da sz es:=fun e he=>⟨(h e he).1,(h e he).2.1⟩
structure af where
 I:Nat→Nat→Prop
 obj:List RO
def I4 (b o len cap:Nat):RO→Prop
 | .none=>True
 | .aR=>False
 | .bw _=>False
 | .tok f b' c' k'=>len≤f∧(len=f→b=b'∧(o=k'∨cap=0)∧cap=c')
 | .aM _=>False
def DZ (b o len cap:Nat):TR→Prop
 | .aR=>False
 | .full f=>len≤f∧(len=f→cap=len)
 | .tok f b' c'=>len≤f∧(len=f→b=b'∧(o=0∨cap=0)∧cap=c')
def BX (b o len cap j:Nat):RO→Prop
 | .none=>True
 | .aR=>False
 | .bw _=>False
 | .tok _ _ _ _=>False
 | .aM ts=>∃ t,nth ts j=some t∧DZ b o len cap t
def Mo (b o f i off sz:Nat):TR→Prop
 | .aR=>False
 | .full f'=>f≤f'
 | .tok f' b' _=>f≤f'∧(f=f'→b=b'∧o=i * sz+off)
def I5 (b o j f i off sz:Nat):RO→Prop
 | .none=>True
 | .aR=>False
 | .bw _=>False
 | .tok _ _ _ _=>False
 | .aM ts=>∃ t,nth ts j=some t∧Mo b o f i off sz t
def pu:RO→Prop
 | .none=>True
 | .aR=>False
 | .bw _=>False
 | .tok _ _ _ _=>False
 | .aM _=>True
def li:RO→Prop
 | .none=>True
 | .aR=>True
 | .bw _=>False
 | .tok f _ _ _=>1≤f
 | .aM _=>False
def Hn (b o f off sz cap:Nat):RO→Prop
 | .none=>True
 | .aR=>False
 | .bw _=>False
 | .tok f' b' c' _=>f≤f'∧(f=f'→b=b'∧off+cap=c'∧(o=off * sz∨cap=0))
 | .aM _=>False
def I6 (b o f i off sz:Nat):RO→Prop
 | .none=>True
 | .aR=>False
 | .bw _=>False
 | .tok f' b' _ _=>f≤f'∧(f=f'→b=b'∧o=i * sz+off)
 | .aM _=>False
def As (R:af) (k:LK) (b o len cap:Nat):Prop:=match k with
 | .nil=>False
 | .full=>cap=len
 | .gX=>True
 | .own id=>∃ ro,nth R.obj id=some ro∧I4 b o len cap ro
 | .aM id j=>∃ ro,nth R.obj id=some ro∧BX b o len cap j ro
mutual
inductive Rel (R:af) (w:World):AV→Value→Prop
 | bool (b:Bool):Rel R w (.bool b) (.bool b)
 | int (k:IntKind) (n:Int):Rel R w (.int k n) (.int k n)
 | str (l:List UInt8):Rel R w (.str l) (.string ⟨⟨l⟩⟩)
 | agg {cs:List AV} {vs:List Value} (h:aC R w cs vs) (h1:∀ v∈vs,v.oneCell'=true):Rel R w (.agg cs) (.agg ⟨vs⟩)
 | bF {cs:List AV} {vs:List Value} (h:aC R w cs vs):Rel R w (.bF cs) (.tuple ⟨vs⟩)
 | iS:Rel R w .iS (.pointer none)
 | ptr {id off b:Nat} (h:nth R.obj id=some (.bw b)):Rel R w (.ptr id off) (.pointer (some ⟨b,off,none⟩))
 | ep {cs:List AV} {b o:Nat} (h:dZ R w b o cs):Rel R w (.ep cs) (.pointer (some ⟨b,o,none⟩))
 | iC {sz:Nat}:Rel R w (.list .nil sz []) (.slice none 0 0)
 | hZ {sz:Nat}:Rel R w (.list .gX sz []) (.slice none 0 0)
 | lj {sz:Nat} {a:Addr}:Rel R w (.list .gX sz []) (.slice (some a) 0 0)
 | jY {id sz:Nat} {ro:RO} (h:nth R.obj id=some ro) (ho:li ro):Rel R w (.list (.own id) sz []) (.slice none 0 0)
 | kH {id j sz:Nat} {ro:RO} (h:nth R.obj id=some ro) (ho:pu ro):Rel R w (.list (.aM id j) sz []) (.slice none 0 0)
 | list {k:LK} {sz:Nat} {es:List AV} {b o len cap:Nat} (h:fM R w b o sz es) (hl:len=es.length) (hc:len≤cap) (hk:As R k b o len cap):Rel R w (.list k sz es) (.slice (some ⟨b,o,none⟩) len cap)
 | iy {id off sz len cap b:Nat} (h:nth R.obj id=some (.bw b)) (hc:len≤cap):Rel R w (.iy id off sz len cap) (.slice (some ⟨b,off,none⟩) len cap)
 | gT {id sz:Nat} {ro:RO} (h:nth R.obj id=some ro) (ho:li ro):Rel R w (.cT id 0 0 sz 0) (.slice none 0 0)
 | cT {id f off sz len cap b o:Nat} {ro:RO} (h:nth R.obj id=some ro) (ho:Hn b o f off sz cap ro) (hc:len≤cap):Rel R w (.cT id f off sz len) (.slice (some ⟨b,o,none⟩) len cap)
 | gp {id f i off sz b o:Nat} {t:TypeId} {ro:RO} (h:nth R.obj id=some ro) (ho:I6 b o f i off sz ro):Rel R w (.gp id f i off sz t) (.pointer (some ⟨b,o,none⟩))
 | qq {id j sz:Nat} {ro:RO} (h:nth R.obj id=some ro) (ho:pu ro):Rel R w (.gk id j sz 0) (.slice none 0 0)
 | gk {id j sz len cap b o:Nat} {ro:RO} (h:nth R.obj id=some ro) (ho:BX b o len cap j ro) (hc:len≤cap):Rel R w (.gk id j sz len) (.slice (some ⟨b,o,none⟩) len cap)
 | rp {id j f i off sz b o:Nat} {t:TypeId} {ro:RO} (h:nth R.obj id=some ro) (ho:I5 b o j f i off sz ro):Rel R w (.rp id j f i off sz t) (.pointer (some ⟨b,o,none⟩))
 | lh:Rel R w .lh (.map none)
 | map {id b:Nat} (h:nth R.obj id=some (.bw b)):Rel R w (.map id) (.map (some b))
 | dB:Rel R w .dB .nilFunc
 | fn {f:FuncId} {xs ys:List AV} {vs us:List Value} (h:aC R w xs vs) (h':aC R w ys us):Rel R w (.fn f xs ys) (.func (.func f) ⟨vs⟩ ⟨us⟩)
 | yield {id b:Nat} (h:nth R.obj id=some (.bw b)):Rel R w (.yield id) (.func (.yield b) #[] #[])
 | mV:Rel R w .mV .nilIface
 | iface {t:TypeId} {v:AV} {c:Value} (h:Rel R w v c):Rel R w (.iface t v) (.iface t c)
inductive aC (R:af) (w:World):List AV→List Value→Prop
 | nil:aC R w [] []
 | cons {a:AV} {c:Value} {l:List AV} {cs:List Value} (h:Rel R w a c) (t:aC R w l cs):aC R w (a :: l) (c :: cs)
inductive fM (R:af) (w:World):Nat→Nat→Nat→List AV→Prop
 | nil {b o sz:Nat}:fM R w b o sz []
 | cons {b o sz:Nat} {e:AV} {es:List AV} (hl:e.cells.length=sz) (ht:e.aN=true) (hk:e.closed=true) (h:dZ R w b o e.cells) (t:fM R w b (o+sz) sz es):fM R w b o sz (e :: es)
inductive dZ (R:af) (w:World):Nat→Nat→List AV→Prop
 | nil {b o:Nat}:dZ R w b o []
 | cons {b o:Nat} {a:AV} {c:Value} {l:List AV} (hc:w.cell? ⟨b,o,none⟩=some c) (h1:c.oneCell'=true) (hi:R.I b o) (h:Rel R w a c) (t:dZ R w b (o+1) l):dZ R w b o (a :: l)
end
def fN:TR→TR→Prop
 | .aR,.aR=>True
 | .aR,.full _=>False
 | .aR,.tok f _ _=>1≤f
 | .full _,.aR=>False
 | .full f,.full f'=>f'=f
 | .full f,.tok f' _ _=>f < f'
 | .tok _ _ _,.aR=>False
 | .tok _ _ _,.full _=>False
 | .tok f b c,.tok f' b' c'=>f≤f'∧(f'=f→b'=b∧c'=c)
theorem fN.refl (t:TR):fN t t:=by cases t <;> simp [fN]
theorem fN.trans {a b c:TR} (h:fN a b) (k:fN b c):fN a c:=by
 cases a <;> cases b <;> cases c <;> simp only [fN] at * <;> omega
def qt (ts OX:List TR):Prop:=∀ j t,nth ts j=some t→∃ t',nth OX j=some t'∧fN t t'
theorem qt.refl (ts:List TR):qt ts ts:=fun _ t h=>⟨t,h,fN.refl t⟩
theorem qt.trans {a b c:List TR} (h:qt a b) (k:qt b c):qt a c:=fun j t hj=>
 let ⟨_,h1,h2⟩:=h j t hj
 let ⟨t2,k1,k2⟩:=k j _ h1
 ⟨t2,k1,h2.trans k2⟩
def bQ:RO→RO→Prop
 | .none,r=>r=.none
 | .bw b,r=>r=.bw b
 | .aR,.none=>True
 | .aR,.aR=>True
 | .aR,.bw _=>False
 | .aR,.tok f _ _ _=>1≤f
 | .tok _ _ _ _,.none=>True
 | .tok _ _ _ _,.aR=>False
 | .tok _ _ _ _,.bw _=>False
 | .tok f b c k,.tok f' b' c' k'=>f≤f'∧(f'=f→b'=b∧c'=c∧k'=k)
 | .aR,.aM _=>False
 | .tok _ _ _ _,.aM _=>False
 | .aM _,.none=>True
 | .aM _,.aR=>False
 | .aM _,.bw _=>False
 | .aM _,.tok _ _ _ _=>False
 | .aM ts,.aM OX=>qt ts OX
theorem bQ.refl (r:RO):bQ r r:=by cases r <;> simp [bQ,qt.refl]
theorem bQ.trans {a b c:RO} (h:bQ a b) (k:bQ b c):bQ a c:=by
 cases a with
 | none=>simp only [bQ] at h; subst h; exact k
 | bw x=>simp only [bQ] at h; subst h; exact k
 | aR=>
  cases b with
  | none=>simp only [bQ] at k; subst k; trivial
  | aR=>exact k
  | bw z=>exact h.elim
  | tok f' x' y' z'=>
   cases c with
   | none=>trivial
   | aR=>exact k.elim
   | bw z=>exact k.elim
   | aM _=>exact k.elim
   | tok f'' x'' y'' z''=>simp only [bQ] at *; omega
  | aM _=>exact h.elim
 | tok f x y z0=>
  cases b with
  | none=>simp only [bQ] at k; subst k; trivial
  | aR=>exact h.elim
  | bw z=>exact h.elim
  | tok f' x' y' z'=>
   cases c with
   | none=>trivial
   | aR=>exact k.elim
   | bw z=>exact k.elim
   | tok f'' x'' y'' z''=>
    simp only [bQ] at *
    refine ⟨Nat.le_trans h.1 k.1,fun e=>?_⟩
    obtain ⟨h1,h2⟩:=h; obtain ⟨k1,k2⟩:=k
    have e1:f'=f:=by omega
    have e2:f''=f':=by omega
    exact ⟨(k2 e2).1.trans (h2 e1).1,(k2 e2).2.1.trans (h2 e1).2.1,(k2 e2).2.2.trans (h2 e1).2.2⟩
   | aM _=>exact k.elim
  | aM _=>exact h.elim
 | aM ts=>
  cases b with
  | none=>simp only [bQ] at k; subst k; trivial
  | aR=>exact h.elim
  | bw z=>exact h.elim
  | tok f' x' y' z'=>exact h.elim
  | aM OX=>
   cases c with
   | none=>trivial
   | aR=>exact k.elim
   | bw z=>exact k.elim
   | tok f' x' y' z'=>exact k.elim
   | aM ts''=>exact qt.trans h k
def nj (r r':Loop):Prop:=r'.tmps=r.tmps∧r'.params=r.params∧r'.assign=r.assign∧r'.body=r.body∧r'.defers=r.defers
def dU (w w':World):Prop:=∀ (b:Nat) (r:Loop),w.heap[b]?=some (Obj.loop r)→∃ r',w'.heap[b]?=some (Obj.loop r')∧nj r r'
theorem dU.refl (w:World):dU w w:=fun _ r h=>⟨r,h,rfl,rfl,rfl,rfl,rfl⟩
theorem dU.trans {w w1 w2:World} (h:dU w w1) (k:dU w1 w2):dU w w2:=fun b r hb=>
 let ⟨_,h1,h2,h3,h4,h5,h6⟩:=h b r hb
 let ⟨r2,k1,k2,k3,k4,k5,k6⟩:=k b _ h1
 ⟨r2,k1,k2.trans h2,k3.trans h3,k4.trans h4,k5.trans h5,k6.trans h6⟩
theorem dU.old {w w':World} (h:∀ b,b < w.heap.size→w'.heap[b]?=w.heap[b]?):dU w w':=fun b r hb=>
 ⟨r,(h b (by
  rcases Nat.lt_or_ge b w.heap.size with bK | qe
  ·exact bK
  ·rw [Array.getElem?_eq_none qe] at hb; cases hb)).trans hb,rfl,rfl,rfl,rfl,rfl⟩
structure Ext (R:af) (w:World) (R':af) (w':World):Prop where
 I:∀ b o,R.I b o→R'.I b o
 cell:∀ b o,R.I b o→w'.cell? ⟨b,o,none⟩=w.cell? ⟨b,o,none⟩
 obj:∀ id ro,nth R.obj id=some ro→∃ jm,nth R'.obj id=some jm∧bQ ro jm
 lp:dU w w'
theorem Ext.refl (R:af) (w:World):Ext R w R w:=⟨fun _ _ h=>h,fun _ _ _=>rfl,fun _ ro h=>⟨ro,h,bQ.refl ro⟩,dU.refl w⟩
theorem Ext.trans {R R' I7:af} {w w' Mp:World} (h:Ext R w R' w') (k:Ext R' w' I7 Mp):Ext R w I7 Mp:=
 ⟨fun b o hi=>k.I b o (h.I b o hi),fun b o hi=>(k.cell b o (h.I b o hi)).trans (h.cell b o hi),fun id ro hr=>
  let ⟨_,h1,h2⟩:=h.obj id ro hr
  let ⟨r2,h3,h4⟩:=k.obj id _ h1
  ⟨r2,h3,h2.trans h4⟩,h.lp.trans k.lp⟩
theorem Ext.bw {R R':af} {w w':World} (h:Ext R w R' w') {id b:Nat} (hb:nth R.obj id=some (.bw b)):nth R'.obj id=some (.bw b):=by
 obtain ⟨r,h1,h2⟩:=h.obj id _ hb
 simp only [bQ] at h2
 subst h2
 exact h1
theorem As.mono {R R':af} {w w':World} (e:Ext R w R' w') {k:LK} {b o len cap:Nat} (h:As R k b o len cap):As R' k b o len cap:=by
 cases k with
 | nil=>exact h
 | full=>exact h
 | gX=>trivial
 | own id=>
  obtain ⟨ro,h1,h2⟩:=h
  obtain ⟨jm,h3,h4⟩:=e.obj id ro h1
  refine ⟨jm,h3,?_⟩
  cases ro with
  | none=>simp only [bQ] at h4; subst h4; trivial
  | aR=>exact h2.elim
  | bw x=>exact h2.elim
  | tok f x y z0=>
   cases jm with
   | none=>trivial
   | aR=>exact h4.elim
   | bw z=>exact h4.elim
   | tok f' x' y' z'=>
    simp only [bQ,I4] at *
    refine ⟨by omega,fun e=>?_⟩
    have e1:f'=f:=by omega
    have h5:=h2.2 (by omega)
    have h6:=h4.2 e1
    exact ⟨h5.1.trans h6.1.symm,h5.2.1.imp (fun q=>q.trans h6.2.2.symm) (fun q=>q),h5.2.2.trans h6.2.1.symm⟩
   | aM _=>exact h4.elim
  | aM _=>exact h2.elim
 | aM id j=>
  obtain ⟨ro,h1,h2⟩:=h
  obtain ⟨jm,h3,h4⟩:=e.obj id ro h1
  refine ⟨jm,h3,?_⟩
  cases ro with
  | none=>simp only [bQ] at h4; subst h4; trivial
  | aR=>exact h2.elim
  | bw x=>exact h2.elim
  | tok _ _ _ _=>exact h2.elim
  | aM ts=>
   cases jm with
   | none=>trivial
   | aR=>exact h4.elim
   | bw z=>exact h4.elim
   | tok _ _ _ _=>exact h4.elim
   | aM OX=>
    obtain ⟨t,k1,k2⟩:=h2
    obtain ⟨t',k3,k4⟩:=h4 j t k1
    refine ⟨t',k3,?_⟩
    cases t with
    | aR=>exact k2.elim
    | full f=>
     cases t' with
     | aR=>exact k4.elim
     | full f'=>simp only [fN,DZ] at *; subst k4; exact k2
     | tok f' x' y'=>simp only [fN,DZ] at *; exact ⟨by omega,fun e=>by omega⟩
    | tok f x y=>
     cases t' with
     | aR=>exact k4.elim
     | full f'=>exact k4.elim
     | tok f' x' y'=>
      simp only [fN,DZ] at *
      refine ⟨by omega,fun e=>?_⟩
      have e1:f'=f:=by omega
      have h5:=k2.2 (by omega)
      have h6:=k4.2 e1
      exact ⟨h5.1.trans h6.1.symm,h5.2.1,h5.2.2.trans h6.2.symm⟩
theorem li.mono {ro jm:RO} (h:li ro) (e:bQ ro jm):li jm:=by
 cases ro with
 | none=>simp only [bQ] at e; subst e; trivial
 | aR=>cases jm <;> first | trivial | exact e.elim | exact e
 | bw _=>exact h.elim
 | tok f x y z0=>
  cases jm with
  | none=>trivial
  | aR=>exact e.elim
  | bw z=>exact e.elim
  | tok f' x' y' z'=>simp only [bQ,li] at *; omega
  | aM _=>exact e.elim
 | aM _=>exact h.elim
theorem pu.mono {ro jm:RO} (h:pu ro) (e:bQ ro jm):pu jm:=by
 cases ro with
 | none=>simp only [bQ] at e; subst e; trivial
 | aR=>exact h.elim
 | bw _=>exact h.elim
 | tok _ _ _ _=>exact h.elim
 | aM ts=>
  cases jm with
  | none=>trivial
  | aR=>exact e.elim
  | bw z=>exact e.elim
  | tok _ _ _ _=>exact e.elim
  | aM OX=>trivial
theorem Hn.mono {b o f off sz cap:Nat} {ro jm:RO} (h:Hn b o f off sz cap ro) (e:bQ ro jm):Hn b o f off sz cap jm:=by
 cases ro with
 | none=>simp only [bQ] at e; subst e; trivial
 | aR=>exact h.elim
 | bw _=>exact h.elim
 | tok f1 x y z0=>
  cases jm with
  | none=>trivial
  | aR=>exact e.elim
  | bw z=>exact e.elim
  | tok f' x' y' z'=>
   simp only [bQ,Hn] at *
   refine ⟨by omega,fun k=>?_⟩
   obtain ⟨e1,e2,_⟩:=e.2 (by omega)
   obtain ⟨h1,h2,h3⟩:=h.2 (by omega)
   exact ⟨h1.trans e1.symm,h2.trans e2.symm,h3⟩
  | aM _=>exact e.elim
 | aM _=>exact h.elim
theorem I6.mono {b o f i off sz:Nat} {ro jm:RO} (h:I6 b o f i off sz ro) (e:bQ ro jm):I6 b o f i off sz jm:=by
 cases ro with
 | none=>simp only [bQ] at e; subst e; trivial
 | aR=>exact h.elim
 | bw _=>exact h.elim
 | tok f1 x y z0=>
  cases jm with
  | none=>trivial
  | aR=>exact e.elim
  | bw z=>exact e.elim
  | tok f' x' y' z'=>
   simp only [bQ,I6] at *
   refine ⟨by omega,fun k=>?_⟩
   obtain ⟨e1,e2,_⟩:=e.2 (by omega)
   obtain ⟨h1,h2⟩:=h.2 (by omega)
   exact ⟨h1.trans e1.symm,h2⟩
  | aM _=>exact e.elim
 | aM _=>exact h.elim
theorem BX.mono {b o len cap j:Nat} {ro jm:RO} (h:BX b o len cap j ro) (h4:bQ ro jm):BX b o len cap j jm:=by
 cases ro with
 | none=>simp only [bQ] at h4; subst h4; trivial
 | aR=>exact h.elim
 | bw x=>exact h.elim
 | tok _ _ _ _=>exact h.elim
 | aM ts=>
  cases jm with
  | none=>trivial
  | aR=>exact h4.elim
  | bw z=>exact h4.elim
  | tok _ _ _ _=>exact h4.elim
  | aM OX=>
   obtain ⟨t,k1,k2⟩:=h
   obtain ⟨t',k3,k4⟩:=h4 j t k1
   refine ⟨t',k3,?_⟩
   cases t with
   | aR=>exact k2.elim
   | full f=>
    cases t' with
    | aR=>exact k4.elim
    | full f'=>simp only [fN,DZ] at *; subst k4; exact k2
    | tok f' x' y'=>simp only [fN,DZ] at *; exact ⟨by omega,fun e=>by omega⟩
   | tok f x y=>
    cases t' with
    | aR=>exact k4.elim
    | full f'=>exact k4.elim
    | tok f' x' y'=>
     simp only [fN,DZ] at *
     refine ⟨by omega,fun e=>?_⟩
     have e1:f'=f:=by omega
     have h5:=k2.2 (by omega)
     have h6:=k4.2 e1
     exact ⟨h5.1.trans h6.1.symm,h5.2.1,h5.2.2.trans h6.2.symm⟩
theorem I5.mono {b o j f i off sz:Nat} {ro jm:RO} (h:I5 b o j f i off sz ro) (h4:bQ ro jm):I5 b o j f i off sz jm:=by
 cases ro with
 | none=>simp only [bQ] at h4; subst h4; trivial
 | aR=>exact h.elim
 | bw x=>exact h.elim
 | tok _ _ _ _=>exact h.elim
 | aM ts=>
  cases jm with
  | none=>trivial
  | aR=>exact h4.elim
  | bw z=>exact h4.elim
  | tok _ _ _ _=>exact h4.elim
  | aM OX=>
   obtain ⟨t,k1,k2⟩:=h
   obtain ⟨t',k3,k4⟩:=h4 j t k1
   refine ⟨t',k3,?_⟩
   cases t with
   | aR=>exact k2.elim
   | full f1=>
    cases t' with
    | aR=>exact k4.elim
    | full f'=>simp only [fN,Mo] at *; omega
    | tok f' x' y'=>simp only [fN,Mo] at *; exact ⟨by omega,fun e=>by omega⟩
   | tok f1 x y=>
    cases t' with
    | aR=>exact k4.elim
    | full f'=>exact k4.elim
    | tok f' x' y'=>
     simp only [fN,Mo] at *
     refine ⟨by omega,fun e=>?_⟩
     have h5:=k2.2 (by omega)
     have h6:=k4.2 (by omega)
     exact ⟨h5.1.trans h6.1.symm,h5.2⟩
mutual
theorem Rel.mono {R R':af} {w w':World} (e:Ext R w R' w'):∀ {a:AV} {c:Value},Rel R w a c→Rel R' w' a c
 | _,_,.bool b=>.bool b
 | _,_,.int k n=>.int k n
 | _,_,.str l=>.str l
 | _,_,.agg h h1=>.agg (h.mono e) h1
 | _,_,.bF h=>.bF (h.mono e)
 | _,_,.iS=>.iS
 | _,_,.ptr h=>.ptr (e.bw h)
 | _,_,.ep h=>.ep (h.mono e)
 | _,_,.iC=>.iC
 | _,_,.hZ=>.hZ
 | _,_,.lj=>.lj
 | _,_,.jY h ho=>let ⟨_,h3,h4⟩:=e.obj _ _ h; .jY h3 (ho.mono h4)
 | _,_,.kH h ho=>let ⟨_,h3,h4⟩:=e.obj _ _ h; .kH h3 (ho.mono h4)
 | _,_,.list h hl hc hk=>.list (h.mono e) hl hc (hk.mono e)
 | _,_,.iy h hc=>.iy (e.bw h) hc
 | _,_,.gT h ho=>let ⟨_,h3,h4⟩:=e.obj _ _ h; .gT h3 (ho.mono h4)
 | _,_,.cT h ho hc=>let ⟨_,h3,h4⟩:=e.obj _ _ h; .cT h3 (ho.mono h4) hc
 | _,_,.gp h ho=>let ⟨_,h3,h4⟩:=e.obj _ _ h; .gp h3 (ho.mono h4)
 | _,_,.qq h ho=>let ⟨_,h3,h4⟩:=e.obj _ _ h; .qq h3 (ho.mono h4)
 | _,_,.gk h ho hc=>let ⟨_,h3,h4⟩:=e.obj _ _ h; .gk h3 (ho.mono h4) hc
 | _,_,.rp h ho=>let ⟨_,h3,h4⟩:=e.obj _ _ h; .rp h3 (ho.mono h4)
 | _,_,.lh=>.lh
 | _,_,.map h=>.map (e.bw h)
 | _,_,.dB=>.dB
 | _,_,.fn h h'=>.fn (h.mono e) (h'.mono e)
 | _,_,.yield h=>.yield (e.bw h)
 | _,_,.mV=>.mV
 | _,_,.iface h=>.iface (h.mono e)
theorem aC.mono {R R':af} {w w':World} (e:Ext R w R' w'):∀ {l:List AV} {cs:List Value},aC R w l cs→aC R' w' l cs
 | _,_,.nil=>.nil
 | _,_,.cons h t=>.cons (h.mono e) (t.mono e)
theorem fM.mono {R R':af} {w w':World} (e:Ext R w R' w'):∀ {b o sz:Nat} {l:List AV},fM R w b o sz l→fM R' w' b o sz l
 | _,_,_,_,.nil=>.nil
 | _,_,_,_,.cons hl ht hk h t=>.cons hl ht hk (h.mono e) (t.mono e)
theorem dZ.mono {R R':af} {w w':World} (e:Ext R w R' w'):∀ {b o:Nat} {l:List AV},dZ R w b o l→dZ R' w' b o l
 | _,_,_,.nil=>.nil
 | _,_,_,.cons hc h1 hi h t=>.cons ((e.cell _ _ hi).trans hc) h1 (e.I _ _ hi) (h.mono e) (t.mono e)
end
end Go.Am
namespace Go.Am
open Go
section lists
variable {α:Type}
theorem aG (l:List α) (n:Nat):nth l n=l[n]?:=by
 induction l generalizing n with
 | nil=>simp [nth]
 | cons a l ih=>cases n <;> simp [nth,ih]
theorem dw (l:List α) (n:Nat) (x:α):au l n x=l.set n x:=by
 induction l generalizing n with
 | nil=>simp [au]
 | cons a l ih=>cases n <;> simp [au,ih]
theorem aT {l:List α} {n:Nat} {x:α} (h:nth l n=some x):n < l.length:=by
 rw [aG] at h
 exact (List.getElem?_eq_some_iff.1 h).1
theorem an {l:List α} {n:Nat} {x y:α} (h:nth l n=some y):nth (au l n x) n=some x:=by
 have:=aT h
 rw [aG,dw,List.getElem?_set_self this]
theorem aD {l:List α} {n m:Nat} {x:α} (h:n≠m):nth (au l n x) m=nth l m:=by
 rw [aG,dw,aG,List.getElem?_set_ne h]
theorem bT {l:List α} {n m:Nat} {x y:α} (h:nth (au l n x) m=some y):(n=m∧y=x∧m < l.length)∨(n≠m∧nth l m=some y):=by
 by_cases e:n=m
 ·subst e
  have hl:=aT h
  rw [dw,List.length_set] at hl
  rw [aG,dw,List.getElem?_set_self hl] at h
  exact .inl ⟨rfl,(Option.some.inj h).symm,hl⟩
 ·rw [aD e] at h
  exact .inr ⟨e,h⟩
@[simp] theorem dz (l:List α) (n:Nat) (x:α):(au l n x).length=l.length:=by rw [dw,List.length_set]
theorem dE (l:List α) (x:α):nth (l++[x]) l.length=some x:=by rw [aG]; simp
theorem bq {l:List α} {n:Nat} {y x:α} (h:nth l n=some y):nth (l++[x]) n=some y:=by
 have:=aT h
 rw [aG] at *
 rw [List.getElem?_append_left this]
 exact h
theorem ai {l:List α} {n:Nat} {y x:α} (h:nth (l++[x]) n=some y):nth l n=some y∨(n=l.length∧y=x):=by
 rw [aG] at *
 by_cases e:n < l.length
 ·rw [List.getElem?_append_left e] at h; exact .inl h
 ·rw [List.getElem?_append_right (by omega)] at h
  have hl:=(List.getElem?_eq_some_iff.1 h).1
  simp at hl
  have:n - l.length=0:=by omega
  rw [this] at h
  simp at h
  exact .inr ⟨by omega,h.symm⟩
theorem lJ:∀ {l:List α} {n:Nat} {x:α},nth l n=some x→au l n x=l
 | [],_,_,h=>by cases h
 | a :: l,0,x,h=>by cases h; rfl
 | a :: l,n+1,x,h=>by
  show a :: au l n x=a :: l
  rw [lJ (show nth l n=some x from h)]
end lists
def PR (R:af) (w:World) (Uc:a8→Array Value→Prop) (busy:Bool) (pending:Option Code) (ae:a8) (n:Nat) (params:List Tmp) (assign body:Code) (defers:Nat) (done:Bool) (b:Nat):Prop:=
 ∃ (r:Loop) (db:Nat),w.heap[b]?=some (.loop r)∧r.state=(if done then .done else if busy then .busy else .ready)∧r.pending=pending ∧
  Uc ae r.tmps∧r.tmps.size=n∧r.params=⟨params⟩∧r.assign=assign∧r.body=body∧r.defers=db∧nth R.obj defers=some (.bw db)
def mW (R:af) (w:World) (β:Nat→Nat):SV→Value→Prop
 | .none,_=>True
 | .v a,c=>Rel R w a c
 | .lp k off,c=>c=.pointer (some ⟨β k,off,none⟩)
def nl (R:af) (w:World) (β:Nat→Nat) (ae:a8) (tmps:Array Value):Prop:=
 ∀ i,lk ae i≠.none→∃ c,tmps[i]?=some c∧mW R w β (lk ae i) c
def FW:a8→Bool
 | []=>true
 | .put _ (.lp _ _) :: _=>false
 | _ :: l=>FW l
def dg (R:af) (w:World):List (AV × AV)→List MapEntry→Prop
 | [],[]=>True
 | (k,v) :: l,e :: es=>Rel R w k e.key∧Rel R w v e.val∧dg R w l es
 | _,_=>False
def zf (R:af) (w:World) (sz:Nat) (e:TypeId) (f:Nat):TR→Prop
 | .aR=>f=0
 | .full f'=>f'=f
 | .tok f' b c=>f'=f∧∃ cur,w.heap[b]?=some (.cells cur e (0,0))∧f≤c∧c≤maxLen∧cur.size=c * sz∧∀ o,f * sz≤o→¬ R.I b o
def OY (ts:List TR):Prop:=∀ i j f b c f' c',nth ts i=some (.tok f b c)→nth ts j=some (.tok f' b c')→i=j
def vl (R:af) (w:World) (sz:Nat) (e:TypeId) (fs:List Nat) (ts:List TR):Prop:=
 ts.length=fs.length∧OY ts∧∀ j f t,nth fs j=some f→nth ts j=some t→zf R w sz e f t
def zg (R:af) (w:World) (sz:Nat) (e:TypeId) (row:List AV):TR→Prop
 | .aR=>row=[]
 | .full _=>False
 | .tok f b c=>f=row.length∧fq sz row∧∃ cur vs,w.heap[b]?=some (.cells cur e (0,0))∧f≤c∧c≤maxLen∧cur.size=c * sz∧(∀ o,¬ R.I b o)∧aC R w (ar row) vs∧(∀ v∈vs,v.oneCell'=true)∧cur.toList.take (f * sz)=vs
def Ud (R:af) (w:World) (sz:Nat) (e:TypeId) (rows:List (List AV)) (ts:List TR):Prop:=
 ts.length=rows.length∧OY ts∧∀ j row t,nth rows j=some row→nth ts j=some t→zg R w sz e row t
def jn (az:Array MapEntry) (clock:Nat):Prop:=clock=az.size∧∀ (i:Nat) (e:MapEntry),az.toList[i]?=some e→e.born=i
def Ue (R:af) (w:World) (fK n:Nat) (left:List Nat) (cur:Option Nat) (b:Nat):Prop:=
 ∃ bm seen c0,nth R.obj fK=some (.bw bm)∧w.heap[b]?=some (.mapIter (some bm) n seen c0)∧(∀ i,i < n→(i∈left↔seen.contains i=false))∧(∀ i∈left,i < n)∧left.Nodup∧n≤c0∧∀ i,cur=some i→seen.back?=some i∧c0=n
def fO (R:af) (w:World):GO→RO→Prop
 | .dead,.none=>True
 | .dead,.aR=>True
 | .dead,.bw b=>b < w.heap.size
 | .dead,.tok _ b _ _=>b < w.heap.size
 | .dead,.aM ts=>∀ j f b c,nth ts j=some (.tok f b c)→b < w.heap.size
 | .aM fs sz e,.aM ts=>vl R w sz e fs ts
 | .gY rows sz e,.aM ts=>Ud R w sz e rows ts
 | .mM fK n left cur _,.bw b=>Ue R w fK n left cur b
 | .tok f _ _,.aR=>f=0
 | .row cs el,.bw b=>∃ vs,w.heap[b]?=some (.cells ⟨vs⟩ el (0,0))∧aC R w cs vs∧(∀ v∈vs,v.oneCell'=true)∧∀ o,¬ R.I b o
 | .tok f sz e,.tok f' b c k=>f'=f∧∃ cur,w.heap[b]?=some (.cells cur e (0,0))∧f≤c∧c≤maxLen∧cur.size=k+c * sz∧∀ o,k+f * sz≤o→¬ R.I b o
 | .cK es _ _,.aR=>es=[]
 | .cK es sz e,.tok f b c k=>k=0∧f=es.length∧da sz es∧∃ cur vs,w.heap[b]?=some (.cells cur e (0,0))∧f≤c∧c≤maxLen∧cur.size=c * sz∧(∀ o,¬ R.I b o)∧aC R w (ar es) vs∧(∀ v∈vs,v.oneCell'=true)∧cur.toList.take (f * sz)=vs
 | .map es,.bw b=>∃ az clock,w.heap[b]?=some (.map az clock)∧dg R w es az.toList∧jn az clock
 | .gf l pos,.bw b=>w.heap[b]?=some (.stringIter ⟨⟨l⟩⟩ pos)
 | .loop busy pending _ ae n params assign body defers done,.bw b=>PR R w (nl R w (fun _=>0)) busy pending ae n params assign body defers done b∧FW ae=true
 | .defers o,.bw b=>w.heap[b]?=some (.deferred (if o then some [] else none))
 | _,_=>False
def ln (E:Env) (R:af) (w:World) (g:Nat) (cs:List AV):Prop:=
 dZ R w g 0 cs∧(E.gx g=true→R.I g cs.length∧w.cell? ⟨g,cs.length,none⟩=none)
theorem ln.mono {E:Env} {R R':af} {w w':World} {g:Nat} {cs:List AV} (h:ln E R w g cs) (e:Ext R w R' w'):ln E R' w' g cs:=
 ⟨h.1.mono e,fun hx=>⟨e.I _ _ (h.2 hx).1,(e.cell _ _ (h.2 hx).1).trans (h.2 hx).2⟩⟩
structure dN (E:Env) (R:af) (w:World) (G:List GO):Prop where
 len:R.obj.length=G.length
 obj:∀ id go ro,nth G id=some go→nth R.obj id=some ro→fO R w go ro
 inj:∀ i j ri rj b,nth R.obj i=some ri→nth R.obj j=some rj→ri.has b→rj.has b→i=j
 wf:∀ b o,R.I b o→b < w.heap.size
 ck:∀ g cs,E.ck g=some cs→ln E R w g cs
 lo:E.lo≤w.drawn
def Live (R:af) (b:Nat):Prop:=∃ id ro,nth R.obj id=some ro∧ro.has b
structure Mq (R:af) (w:World) (β:Nat→Nat) (boxes:cp):Prop where
 box:∀ k cs,cX boxes k=some cs→(∃ vs el,w.heap[β k]?=some (.cells ⟨vs⟩ el (0,0))∧aC R w cs vs∧(∀ v∈vs,v.oneCell'=true))∧(∀ o,¬ R.I (β k) o)∧¬ Live R (β k)
 inj:∀ k k' cs dJ,cX boxes k=some cs→cX boxes k'=some dJ→β k=β k'→k=k'
def oL (R:af):List Nat→List Deferred→Prop
 | [],[]=>True
 | id :: l,d :: ds=>(∃ b,nth R.obj id=some (.bw b)∧d={ target:=.collected b,args:=#[] })∧oL R l ds
 | _,_=>False
structure aQ (E:Env) (R:af) (w:World) (β:Nat→Nat) (s:St) (a:Act):Prop where
 g:dN E R w s.G
 b:Mq R w β s.boxes
 t:nl R w β s.ae a.tmps
 n:a.tmps.size=s.n
 d:oL R s.marks a.defers
def Own (R:af) (β:Nat→Nat) (boxes:cp) (b:Nat):Prop:=
 Live R b∨∃ k cs,cX boxes k=some cs∧β k=b
structure Step (R:af) (w:World) (β:Nat→Nat) (bx:cp) (R':af) (w':World) (β':Nat→Nat) (FX:cp):Prop where
 ext:Ext R w R' w'
 os:w'.os=w.os
 tape:w'.tape=w.tape
 output:w'.output=w.output
 size:w.heap.size≤w'.heap.size
 bY:∀ b,b < w.heap.size→¬ Own R β bx b→w'.heap[b]?=w.heap[b]?
 own:∀ b,b < w.heap.size→Own R' β' FX b→Own R β bx b
 im:∀ b o,R'.I b o→b < w.heap.size→¬ Own R β bx b→R.I b o
theorem Step.refl (R:af) (w:World) (β:Nat→Nat) (bx:cp):Step R w β bx R w β bx:=
 ⟨Ext.refl R w,rfl,rfl,rfl,Nat.le_refl _,fun _ _ _=>rfl,fun _ _ h=>h,fun _ _ h _ _=>h⟩
theorem Step.trans {R R1 R2:af} {w w1 w2:World} {β β1 β2:Nat→Nat} {x x1 x2:cp}
  (h:Step R w β x R1 w1 β1 x1) (k:Step R1 w1 β1 x1 R2 w2 β2 x2):Step R w β x R2 w2 β2 x2 where
 ext:=h.ext.trans k.ext
 os:=k.os.trans h.os
 tape:=k.tape.trans h.tape
 output:=k.output.trans h.output
 size:=Nat.le_trans h.size k.size
 bY:=fun b hb hn=>(k.bY b (Nat.lt_of_lt_of_le hb h.size) (fun ho=>hn (h.own b hb ho))).trans (h.bY b hb hn)
 own:=fun b hb ho=>h.own b hb (k.own b (Nat.lt_of_lt_of_le hb h.size) ho)
 im:=fun b o hi hb hn=>h.im b o (k.im b o hi (Nat.lt_of_lt_of_le hb h.size) (fun ho=>hn (h.own b hb ho))) hb hn
theorem mW.mono {R R':af} {w w':World} {β:Nat→Nat} (e:Ext R w R' w') {x:SV} {c:Value} (h:mW R w β x c):mW R' w' β x c:=by
 cases x with
 | none=>trivial
 | v a=>exact Rel.mono e h
 | lp k off=>exact h
theorem qu (n:Nat):Nat.beq n n=true:=Nat.beq_refl n
theorem mj {n m:Nat} (h:n≠m):Nat.beq n m=false:=by
 cases hb:Nat.beq n m with
 | true=>exact absurd (Nat.eq_of_beq_eq_true hb) h
 | false=>rfl
theorem ax (l:a8) (d:Nat) (x:SV):lk (.put d x :: l) d=x:=by simp [lk]
theorem aI {l:a8} {d t:Nat} {x:SV} (h:d≠t):lk (.put d x :: l) t=lk l t:=by simp [lk,mj h]
theorem FY {l:a8} {d t:Nat}:(lk (.kill d :: l) t=lk l t∧∀ k off,lk l t=.lp k off→k≠d)∨lk (.kill d :: l) t=.none:=by
 simp only [lk]
 cases h:lk l t with
 | none=>exact .inr rfl
 | v a=>exact .inl ⟨rfl,fun _ _ e=>by cases e⟩
 | lp k off=>
  by_cases hk:k=d
  ·subst hk
   exact .inr (by simp)
  ·exact .inl ⟨by simp [mj hk],fun k' fe e=>by cases e; exact hk⟩
theorem I8 (l:cp) (d:Nat) (cs:List AV):cX ((d,cs) :: l) d=some cs:=by simp [cX]
theorem eu {l:cp} {d k:Nat} {cs dJ:List AV} (h:cX ((d,cs) :: l) k=some dJ):(d=k∧dJ=cs)∨(d≠k∧cX l k=some dJ):=by
 by_cases e:d=k
 ·subst e
  rw [I8] at h
  exact .inl ⟨rfl,(Option.some.inj h).symm⟩
 ·simp only [cX,mj e,cond_false] at h
  exact .inr ⟨e,h⟩
theorem Mr {l:cp} (h:l.all (fun p=>ay p.2)=true) {k:Nat} {cs:List AV} (hk:cX l k=some cs):ay cs=true:=by
 induction l with
 | nil=>simp [cX] at hk
 | cons x l ih=>
  obtain ⟨d,c⟩:=x
  simp only [List.all_cons,Bool.and_eq_true] at h
  rcases eu hk with ⟨_,rfl⟩ | ⟨_,hk⟩
  ·exact h.1
  ·exact ih h.2 hk
theorem nl.put {R:af} {w:World} {β:Nat→Nat} {ae:a8} {a:Act} (h:nl R w β ae a.tmps) {d:Tmp} {x:SV} {c:Value} (hd:d < a.tmps.size) (hx:mW R w β x c) :
  nl R w β (.put d x :: ae) (a.put (some d) c).tmps:=by
 intro i hi
 by_cases e:d=i
 ·subst e
  rw [ax]
  exact ⟨c,by simp [Act.put,hd],hx⟩
 ·rw [aI e] at hi ⊢
  obtain ⟨c',h1,h2⟩:=h i hi
  refine ⟨c',?_,h2⟩
  simp only [Act.put]
  rw [Array.getElem?_setIfInBounds_ne e]
  exact h1
theorem aQ.put {E:Env} {R:af} {w:World} {β:Nat→Nat} {s:St} {a:Act} (h:aQ E R w β s a) (dst:Option Tmp) {x:SV} {c:Value} (hx:mW R w β x c) :
  aQ E R w β (s.put dst x) (a.put dst c):=by
 cases dst with
 | none=>exact h
 | some d=>
  simp only [St.put]
  cases hb:Nat.blt d s.n with
  | true=>
   have hd:d < a.tmps.size:=by rw [h.n]; exact Nat.le_of_ble_eq_true hb
   exact ⟨h.g,h.b,h.t.put hd hx,by simp [Act.put,h.n],h.d⟩
  | false=>
   have hd:¬ d < a.tmps.size:=by
    rw [h.n]
    intro bK
    have:Nat.blt d s.n=true:=Nat.ble_eq_true_of_le bK
    rw [this] at hb
    cases hb
   have he:a.put (some d) c=a:=by
    simp only [Act.put]
    rw [Array.setIfInBounds_eq_of_size_le (Nat.not_lt.1 hd)]
   rw [he]
   exact h
theorem qv {R:af} {w:World} {v:Value} {a:AV} (h:qh v=some a):Rel R w a v∧v.oneCell'=true:=by
 unfold qh at h
 split at h <;> cases h
 ·exact ⟨.bool _,rfl⟩
 ·exact ⟨.int _ _,rfl⟩
 ·rename_i s
  exact ⟨.str s.data.toList,rfl⟩
 ·exact ⟨.iC,rfl⟩
 ·exact ⟨.iS,rfl⟩
 ·exact ⟨.lh,rfl⟩
 ·exact ⟨.dB,rfl⟩
 ·exact ⟨.mV,rfl⟩
theorem ml {R:af} {w:World}:∀ {vs:List Value} {l:List AV},lE vs=some l→aC R w l vs∧∀ v∈vs,v.oneCell'=true
 | [],l,h=>by simp [lE] at h; subst h; exact ⟨.nil,by simp⟩
 | v :: vs,l,h=>by
  unfold lE at h
  split at h
  ·rename_i a r h1 h2
   cases h
   obtain ⟨k1,k2⟩:=qv (R:=R) (w:=w) h1
   obtain ⟨k3,k4⟩:=ml (R:=R) (w:=w) h2
   exact ⟨.cons k1 k3,by simp [k2]; exact k4⟩
  ·cases h
theorem tf {R:af} {w:World} {v:Value} {a:AV} (h:qi v=some a):Rel R w a v:=by
 unfold qi at h
 split at h
 ·rename_i cs
  split at h
  ·rename_i l hl
   cases h
   obtain ⟨k1,k2⟩:=ml (R:=R) (w:=w) hl
   exact .agg (vs:=cs.toList) k1 k2
  ·cases h
 ·rename_i cs
  split at h
  ·rename_i l hl
   cases h
   obtain ⟨k1,_⟩:=ml (R:=R) (w:=w) hl
   exact .bF (vs:=cs.toList) k1
  ·cases h
 ·exact (qv h).1
theorem aJ {E:Env} {R:af} {w:World} {β:Nat→Nat} {s:St} {a:Act} (h:aQ E R w β s a) (x:Operand):mW R w β (bp E s.ae x) (a.eval x):=by
 cases x with
 | tmp t=>
  simp only [bp,Act.eval]
  by_cases hn:lk s.ae t=.none
  ·rw [hn]; trivial
  ·obtain ⟨c,h1,h2⟩:=h.t t hn
   have:a.tmps.getD t undef=c:=by simp [Array.getD_eq_getD_getElem?,h1]
   rw [this]
   exact h2
 | const v=>
  simp only [bp,Act.eval]
  cases hc:qi v with
  | none=>trivial
  | some y=>exact tf hc
 | global g=>
  simp only [bp,Act.eval]
  cases hg:E.ck g with
  | none=>trivial
  | some cs=>exact Rel.ep (h.g.ck g cs hg).1
 | func f=>exact Rel.fn .nil .nil
end Go.Am
