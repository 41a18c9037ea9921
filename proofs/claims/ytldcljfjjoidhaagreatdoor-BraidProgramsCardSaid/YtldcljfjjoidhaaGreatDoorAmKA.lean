/- The abstract machine: its values,its state,and what each operation does (definitions alone). -/
import Derived.CallsIn
import Derived.RangeFuncLeaves
import Derived.Laws.AppendOwn
set_option linter.all false
namespace Go.Am
open Go
inductive LK where
 | nil | full | ka | own (id:Nat) | a7 (id j:Nat)
inductive AV where
 | bool (b:Bool)
 | int (k:IntKind) (n:Int)
 | str (s:List UInt8)
 | agg (cs:List AV)
 | bg (vs:List AV)
 | gD
 | ptr (id off:Nat)
 | ep (cs:List AV)
 | list (k:LK) (sz:Nat) (es:List AV)
 | ja (id off sz len cap:Nat)
 | du (id f off sz len:Nat)
 | gp (id f i off sz:Nat) (t:TypeId)
 | ju
 | map (id:Nat)
 | cb
 | fn (f:FuncId) (first cap:List AV)
 | yield (id:Nat)
 | mC
 | iface (t:TypeId) (v:AV)
def LK.closed:LK→Bool
 | .own _=>false
 | .a7 _ _=>false
 | _=>true
mutual
def AV.closed:AV→Bool
 | .agg cs=>aA cs
 | .bg cs=>aA cs
 | .ep cs=>aA cs
 | .list k _ _=>k.closed
 | .fn _ x y=>aA x&&aA y
 | .iface _ v=>v.closed
 | .ptr _ _=>false
 | .ja _ _ _ _ _=>false
 | .du _ _ _ _ _=>false
 | .gp _ _ _ _ _ _=>false
 | .map _=>false
 | .yield _=>false
 | _=>true
def aA:List AV→Bool
 | []=>true
 | a :: l=>a.closed&&aA l
end
mutual
def AV.fJ:AV→AV
 | .agg cs=>.agg (kj cs)
 | .bg cs=>.bg (kj cs)
 | .list (.own _) sz es=>.list .ka sz es
 | .list (.a7 _ _) sz es=>.list .ka sz es
 | v=>v
def kj:List AV→List AV
 | []=>[]
 | a :: l=>a.fJ :: kj l
end
inductive SV where
 | none
 | v (a:AV)
 | lp (key off:Nat)
inductive Ent where
 | put (d:Nat) (x:SV)
 | kill (d:Nat)
abbrev a6:=List Ent
abbrev cp:=List (Nat × List AV)
def lk:a6→Nat→SV
 | [],_=>.none
 | .put d x :: l,t=>bif Nat.beq d t then x else lk l t
 | .kill d :: l,t=>match lk l t with
  | .lp k off=>bif Nat.beq k d then .none else .lp k off
  | x=>x
def dc:cp→Nat→Option (List AV)
 | [],_=>none
 | (d,cs) :: l,k=>bif Nat.beq d k then some cs else dc l k
inductive GO where
 | dead
 | row (cs:List AV) (el:TypeId)
 | tok (f sz:Nat) (e:TypeId)
 | a7 (fs:List Nat) (sz:Nat) (e:TypeId)
 | my (pj n:Nat) (left:List Nat) (cur:Option Nat) (t:TypeId)
 | cO (es:List AV) (sz:Nat) (el:TypeId)
 | map (es:List (AV × AV))
 | fB (s:List UInt8) (pos:Nat)
 | loop (busy:Bool) (pending:Option Code) (fn:FuncId) (ae:a6) (n:Nat) (params:List Tmp) (assign body:Code) (defers:Nat) (done:Bool)
 | defers (open_:Bool)
structure St where
 ae:a6
 boxes:cp
 G:List GO
 marks:List Nat
 ro:Option Nat
 n:Nat
def nth {α:Type}:List α→Nat→Option α
 | [],_=>none
 | a :: _,0=>some a
 | _ :: l,n+1=>nth l n
def ay {α:Type}:List α→Nat→α→List α
 | [],_,_=>[]
 | _ :: l,0,x=>x :: l
 | a :: l,n+1,x=>a :: ay l n x
def takeN {α:Type}:Nat→List α→Option (List α)
 | 0,_=>some []
 | _+1,[]=>none
 | n+1,a :: l=>match takeN n l with
  | some r=>some (a :: r)
  | none=>none
def eK {α:Type}:Nat→List α→List α
 | 0,l=>l
 | _+1,[]=>[]
 | n+1,_ :: l=>eK n l
def Ed {α:Type} (off n:Nat) (l:List α):Option (List α):=takeN n (eK off l)
def aZ {α:Type}:List α→Nat→List α→List α
 | l,_,[]=>l
 | [],_,_ :: _=>[]
 | _ :: l,0,y :: ys=>y :: aZ l 0 ys
 | a :: l,n+1,y :: ys=>a :: aZ l n (y :: ys)
def AV.cells:AV→List AV
 | .agg cs=>cs
 | v=>[v]
def AV.one:AV→Bool
 | .agg _=>false
 | .bg _=>false
 | _=>true
def pX:Value→Option AV
 | .bool b=>some (.bool b)
 | .int k n=>some (.int k n)
 | .string s=>some (.str s.data.toList)
 | .slice none 0 0=>some (.list .nil 0 [])
 | .pointer none=>some .gD
 | .map none=>some .ju
 | .nilFunc=>some .cb
 | .nilIface=>some .mC
 | _=>none
def kT:List Value→Option (List AV)
 | []=>some []
 | v :: vs=>match pX v,kT vs with
  | some a,some l=>some (a :: l)
  | _,_=>none
def pY:Value→Option AV
 | .agg cs=>match kT cs.toList with
  | some l=>some (.agg l)
  | none=>none
 | .tuple cs=>match kT cs.toList with
  | some l=>some (.bg l)
  | none=>none
 | v=>pX v
inductive TK where
 | sc
 | int (k:IntKind)
 | str
 | st (fs:List (Nat × Nat × Bool))
 | arr (len esz:Nat) (Yq:Bool)
 | sl (elem esz:Nat) (Yq:Bool) (bq:Nat) (UE:Option AV)
 | map (key elem:TypeId) (UE:Option AV)
mutual
inductive EK where
 | no
 | bool
 | int
 | str
 | st (fs:Qs)
inductive Qs where
 | nil
 | cons (off sz:Nat) (ag:Bool) (k:EK) (rest:Qs)
end
structure TI where
 k:TK
 size:Nat
 agg:Bool
 zero:Option AV
 ek:EK
def iO:TypeDesc→Bool
 | .struct _=>true
 | .array _ _=>true
 | _=>false
def fieldsOf (P:Program):List Field→Option (List (Nat × Nat × Bool))
 | []=>some []
 | f :: fs=>match P.info? f.type,P.underlying f.type,fieldsOf P fs with
  | some i,some u,some l=>some ((f.offset,i.size,iO u) :: l)
  | _,_,_=>none
def fg (i:TypeInfo):Option AV:=match i.zero with
 | some z=>pY z
 | none=>none
def oz (P:Program):TypeDesc→Option TK
 | .int k=>some (.int k)
 | .string=>some .str
 | .struct fs=>match fieldsOf P fs.toList with
  | some l=>some (.st l)
  | none=>none
 | .array n e=>match P.info? e,P.underlying e with
  | some i,some u=>some (.arr n i.size (iO u))
  | _,_=>none
 | .slice e=>match P.info? e,P.underlying e with
  | some i,some u=>some (.sl e i.size (iO u) i.bytes (fg i))
  | _,_=>none
 | .map k e=>match P.info? e with
  | some i=>some (.map k e (fg i))
  | none=>none
 | _=>some .sc
def Cl (P:Program) (ek:TypeId→EK):List Field→Option Qs
 | []=>some .nil
 | f :: fs => if f.name == "_" then none else match P.info? f.type, P.underlying f.type, Cl P ek fs with
  | some i,some u,some l=>some (.cons f.offset i.size (iO u) (ek f.type) l)
  | _,_,_=>none
def uh (sz:Nat) (ag:Bool) (k:EK):Nat→Nat→Qs
 | 0,_=>.nil
 | n+1,i=>.cons (i * sz) sz ag k (uh sz ag k n (i+1))
def oA (P:Program):Nat→TypeId→EK
 | 0,_=>.no
 | n+1,t=>match P.underlying t with
  | some .bool=>.bool
  | some (.int _)=>.int
  | some .string=>.str
  | some (.struct fs)=>if P.stoodInHeld t then .no else match Cl P (oA P n) fs.toList with
   | some l=>.st l
   | none=>.no
  | some (.array m e)=>match P.info? e,P.underlying e with
   | some i,some u=>.st (uh i.size (iO u) (oA P n e) m 0)
   | _,_=>.no
  | _=>.no
def ss (P:Program) (t:TypeId):EK:=match oA P 6 t with
 | .st l=>if P.eqGuardType P.depth t then .no else .st l
 | k=>k
def Ft (P:Program) (t:TypeId):Option TI:=
 match P.info? t,P.underlying t with
 | some i,some u=>match oz P u with
  | some k=>some { k:=k,size:=i.size,agg:=iO u,zero:=fg i,ek:=ss P t }
  | none=>none
 | _,_=>none
def Hd:AV→AV→Bool
 | .bool a,.bool b=>a == b
 | .int k a,.int k' b=>(k == k')&&a == b
 | .str a,.str b=>a == b
 | .gD,.gD=>true
 | .ptr i o,.ptr i' o'=>Nat.beq i i'&&Nat.beq o o'
 | .ju,.ju=>true
 | .map i,.map i'=>Nat.beq i i'
 | .cb,.cb=>true
 | .mC,.mC=>true
 | .ja a b c d e,.ja a' b' c' d' e'=>Nat.beq a a'&&Nat.beq b b'&&Nat.beq c c'&&Nat.beq d d'&&Nat.beq e e'
 | .du a b c d e,.du a' b' c' d' e'=>Nat.beq a a'&&Nat.beq c c'&&Nat.beq d d'&&(Nat.beq b b'&&Nat.beq e e')
 | .gp a b c d e t,.gp a' b' c' d' e' t'=>Nat.beq a a'&&Nat.beq b b'&&Nat.beq c c'&&Nat.beq d d'&&Nat.beq e e'&&Nat.beq t t'
 | _,_=>false
mutual
def dE:AV→AV→Bool
 | .fn f x y,.fn f' x' y'=>Nat.beq f f'&&kU x x'&&kU y y'
 | .agg cs,.agg cs'=>kU cs cs'
 | .ep cs,.ep cs'=>kU cs cs'
 | .bg cs,.bg cs'=>kU cs cs'
 | .list .nil a es,.list .nil a' es'=>Nat.beq a a'&&kU es es'
 | .list .full a es,.list .full a' es'=>Nat.beq a a'&&kU es es'
 | .list .ka a es,.list .ka a' es'=>Nat.beq a a'&&kU es es'
 | .list (.own i) a es,.list (.own i') a' es'=>Nat.beq i i'&&Nat.beq a a'&&kU es es'
 | .list (.a7 i j) a es,.list (.a7 i' j') a' es'=>Nat.beq i i'&&Nat.beq j j'&&Nat.beq a a'&&kU es es'
 | a,b=>Hd a b
def kU:List AV→List AV→Bool
 | [],[]=>true
 | a :: l,b :: r=>dE a b&&kU l r
 | _,_=>false
end
mutual
inductive aj
 | int (k:IntKind)
 | bool
 | str
 | agg (ps:aH)
 | bg (ps:aH)
 | list (sz:Nat) (p:aj)
 | own (id sz:Nat) (p:aj)
 | a7 (id sz:Nat) (p:aj)
 | fe (v:AV)
 | two (u v:AV)
inductive aH
 | nil
 | cons (p:aj) (ps:aH)
end
def UF (s:Bool) (α β:Type):Type:=match s with
 | true=>α
 | false=>α × β
def aH.isNil:aH→Bool
 | .nil=>true
 | .cons _ _=>false
mutual
def aj.T:aj→Type
 | .int _=>Int
 | .bool=>Bool
 | .str=>List UInt8
 | .agg ps=>ps.T
 | .bg ps=>ps.T
 | .list _ p=>List p.T
 | .own _ _ p=>List p.T
 | .a7 _ _ p=>Nat × List p.T
 | .fe _=>Unit
 | .two _ _=>Bool
def aH.T:aH→Type
 | .nil=>Unit
 | .cons p ps=>UF ps.isNil p.T ps.T
end
mutual
def aj.enc:(p:aj)→p.T→AV
 | .int k,(n:Int)=>.int k n
 | .bool,(b:Bool)=>.bool b
 | .str,(s:List UInt8)=>.str s
 | .agg ps,x=>.agg (ps.enc x)
 | .bg ps,x=>.bg (ps.enc x)
 | .list sz p,(xs:List p.T)=>.list .ka sz (xs.map p.enc)
 | .own id sz p,(xs:List p.T)=>.list (.own id) sz (xs.map p.enc)
 | .a7 id sz p,(x:Nat × List p.T)=>.list (.a7 id x.1) sz (x.2.map p.enc)
 | .fe v,_=>v
 | .two u v,(b:Bool)=>bif b then v else u
def aH.enc:(ps:aH)→ps.T→List AV
 | .nil,_=>[]
 | .cons p .nil,x=>[p.enc x]
 | .cons p (.cons q ps),x=>p.enc x.1 :: (aH.cons q ps).enc x.2
end
def Qt:IntKind→IntKind→Bool:=fun a b=>decide (a=b)
def AV.iO:AV→List AV
 | .agg cs=>cs
 | _=>[]
def AV.Qu:AV→List AV
 | .bg cs=>cs
 | _=>[]
def AV.dv:AV→List AV
 | .list _ _ es=>es
 | _=>[]
def AV.Yr:AV→Nat
 | .list (.a7 _ j) _ _=>j
 | _=>0
def AV.kb:AV→Int
 | .int _ n=>n
 | _=>0
def AV.UG:AV→Bool
 | .bool b=>b
 | _=>false
def AV.Qv:AV→List UInt8
 | .str s=>s
 | _=>[]
def dG:List AV→AV
 | a :: _=>a
 | []=>.gD
def He:List AV→List AV
 | _ :: l=>l
 | []=>[]
mutual
def aj.bi:(p:aj)→AV→p.T
 | .int _,v=>v.kb
 | .bool,v=>v.UG
 | .str,v=>v.Qv
 | .agg ps,v=>ps.bi v.iO
 | .bg ps,v=>ps.bi v.Qu
 | .list _ p,v=>v.dv.map p.bi
 | .own _ _ p,v=>v.dv.map p.bi
 | .a7 _ _ p,v=>(v.Yr,v.dv.map p.bi)
 | .fe _,_=>()
 | .two _ v,a=>dE a v
def aH.bi:(ps:aH)→List AV→ps.T
 | .nil,_=>()
 | .cons p .nil,l=>p.bi (dG l)
 | .cons p (.cons q ps),l=>(p.bi (dG l),(aH.cons q ps).bi (He l))
end
def allFit (f:AV→Bool):List AV→Bool
 | []=>true
 | a :: l=>f a&&allFit f l
mutual
def aj.fits:aj→AV→Bool
 | .int k,v=>match v with
  | .int k' _=>Qt k k'
  | _=>false
 | .bool,v=>match v with
  | .bool _=>true
  | _=>false
 | .str,v=>match v with
  | .str _=>true
  | _=>false
 | .agg ps,v=>match v with
  | .agg cs=>ps.fits cs
  | _=>false
 | .bg ps,v=>match v with
  | .bg cs=>ps.fits cs
  | _=>false
 | .list sz p,v=>match v with
  | .list _ bG es=>(Nat.beq sz bG || es.isEmpty)&&allFit p.fits es
  | _=>false
 | .own id sz p,v=>match v with
  | .list (.own iN) bG es=>(Nat.beq id iN&&Nat.beq sz bG)&&allFit p.fits es
  | _=>false
 | .a7 id sz p,v=>match v with
  | .list (.a7 iN _) bG es=>(Nat.beq id iN&&Nat.beq sz bG)&&allFit p.fits es
  | _=>false
 | .fe v,u=>dE u v
 | .two u v,a=>dE a u || dE a v
def aH.fits:aH→List AV→Bool
 | .nil,l=>l.isEmpty
 | .cons p ps,l=>match l with
  | a :: l=>p.fits a&&ps.fits l
  | []=>false
end
def aj.dec (p:aj) (v:AV):Option p.T:=bif p.fits v then some (p.bi v) else none
def aH.dec (ps:aH) (l:List AV):Option ps.T:=bif ps.fits l then some (ps.bi l) else none
structure Env where
 P:Program
 ti:TypeId→Option TI
 bY:Nat→Option (List AV)
 wW:FuncId→Tmp→Bool
 Pw:TypeId→Option aj
 lo:Nat:=0
 gho:FuncId→Tmp→List (Option Nat × Nat × TypeId):=fun _ _=>[]
 Xp:TypeId→Option aj:=fun _=>none
 gx:Nat→Bool:=fun _=>false
 Fu:∀ t i,ti t=some i→Ft P t=some i
 mixed:P.follows .mixedOrders=true
 mJ:∀ g cs,bY g=some cs→aA cs=true
def bw (E:Env) (ae:a6):Operand→SV
 | .tmp t=>lk ae t
 | .const v=>match pY v with
  | some a=>.v a
  | none=>.none
 | .global g=>match E.bY g with
  | some cs=>.v (.ep cs)
  | none=>.none
 | .func f=>.v (.fn f [] [])
def St.put (s:St) (dst:Option Tmp) (x:SV):St:=match dst with
 | some d=>match Nat.blt d s.n with
  | true=>⟨.put d x :: s.ae,s.boxes,s.G,s.marks,s.ro,s.n⟩
  | false=>s
 | none=>s
def eR:AV:=.bg []
def ra (agg:Bool) (cs:List AV):Option AV:=
 if agg then some (.agg cs) else match cs with
  | [c]=>some c
  | _=>none
def lH (s:St):SV→Option (List AV × Nat)
 | .lp k off=>match dc s.boxes k with
  | some cs=>some (cs,off)
  | none=>none
 | .v (.ptr id off)=>match nth s.G id with
  | some (.row cs _)=>some (cs,off)
  | _=>none
 | .v (.ep cs)=>some (cs,0)
 | _=>none
def xC (n:Nat):SV→Option SV
 | .lp k off=>some (.lp k (off+n))
 | .v (.ptr id off)=>some (.v (.ptr id (off+n)))
 | .v (.ep cs)=>some (.v (.ep (eK n cs)))
 | .v (.gp id f i off sz t)=>some (.v (.gp id f i (off+n) sz t))
 | _=>none
def yN (t:Bool):AV→AV→AV
 | .bool x,.bool y=>.bool (bif t then x else y)
 | .int k x,.int k' y=>if k=k' then .int k (bif t then x else y) else (bif t then .int k x else .int k' y)
 | a,b=>bif t then a else b
def Ee (ag:Bool) (off sz:Nat) (cs:List AV):Option AV:=
 if ag then (match Ed off sz cs with | some l=>ra true l | none=>none) else (match Ed off 1 cs with | some l=>ra false l | none=>none)
mutual
def kd:EK→AV→AV→Option Bool
 | .bool,.bool a,.bool b=>some (a == b)
 | .int,.int k a,.int k' b=>if k=k' then some (a == b) else none
 | .str,.str a,.str b=>some (a == b)
 | .st fs,.agg xs,.agg ys=>rb fs xs ys
 | _,_,_=>none
def rb:Qs→List AV→List AV→Option Bool
 | .nil,_,_=>some true
 | .cons off sz ag k rest,xs,ys=>match Ee ag off sz xs,Ee ag off sz ys with
  | some a,some b=>match kd k a b,rb rest xs ys with
   | some t,some u=>some (t&&u)
   | _,_=>none
  | _,_=>none
end
def Fv (k:IntKind) (a b:Int):Int:=k.wrap (BitVec.ofInt k.bits a &&& BitVec.ofInt k.bits b).toNat
def Ys (k:IntKind) (a b:Int):Int:=k.wrap (BitVec.ofInt k.bits a ||| BitVec.ofInt k.bits b).toNat
def Fw (k:IntKind) (a b:Int):Int:=k.wrap (BitVec.ofInt k.bits a ^^^ BitVec.ofInt k.bits b).toNat
def Ao (op:BinOp) (x y:AV):Option (Bool × AV):=
 match x,y with
 | .int k a,.int k' b=>
  match op with
  | .shl=>some (decide (0≤b),.int k (k.wrap (a * 2 ^ (min b.toNat k.bits))))
  | .shr=>some (decide (0≤b),.int k (a.fdiv (2 ^ (min b.toNat k.bits))))
  | _=>if k=k' then
    match op with
    | .add=>some (true,.int k (k.wrap (a+b)))
    | .sub=>some (true,.int k (k.wrap (a - b)))
    | .mul=>some (true,.int k (k.wrap (a * b)))
    | .quo=>some (!(decide (b=0)),.int k (k.wrap (a.tdiv b)))
    | .rem=>some (!(decide (b=0)),.int k (a.tmod b))
    | .and=>some (true,.int k (Fv k a b))
    | .or=>some (true,.int k (Ys k a b))
    | .xor=>some (true,.int k (Fw k a b))
    | .eql=>some (true,.bool (a == b))
    | .neq=>some (true,.bool (a != b))
    | .lss=>some (true,.bool (a < b))
    | .leq=>some (true,.bool (a≤b))
    | .gtr=>some (true,.bool (a > b))
    | .geq=>some (true,.bool (a≥b))
    | _=>none
   else none
 | .str a,.str b=>
  match op with
  | .add=>some (decide (a.length+b.length≤9223372036854775807),.str (a++b))
  | .eql=>some (true,.bool (a == b))
  | .neq=>some (true,.bool (!(a == b)))
  | .lss=>some (true,.bool (Op.bytesLess a b))
  | .leq=>some (true,.bool (Op.bytesLess a b || a == b))
  | .gtr=>some (true,.bool (!(Op.bytesLess a b || a == b)))
  | .geq=>some (true,.bool (!(Op.bytesLess a b)))
  | _=>none
 | _,_=>none
end Go.Am
namespace Go.Am
open Go
def St.kill (s:St) (d:Nat):St:=⟨.kill d :: s.ae,s.boxes,s.G,s.marks,s.ro,s.n⟩
def AV.aR:AV→Bool
 | .bg _=>false
 | _=>true
def St.dw (s:St) (o:GO):St:=⟨s.ae,s.boxes,s.G++[o],s.marks,s.ro,s.n⟩
def St.bW (s:St) (G:List GO):St:=⟨s.ae,s.boxes,G,s.marks,s.ro,s.n⟩
def St.tf (s:St) (d:Nat) (cs:List AV):St:=⟨s.ae,(d,cs) :: s.boxes,s.G,s.marks,s.ro,s.n⟩
def ef (E:Env) (f:FuncId) (s:St) (dst:Option Tmp) (el:TypeId) (cs:List AV):Option (Bool × St):=
 match dst with
 | none=>none
 | some d=>
  if E.wW f d then some (true,(s.dw (.row cs el)).put (some d) (.v (.ptr s.G.length 0)))
  else match Nat.blt d s.n with
   | true=>some (true,((s.kill d).tf d cs).put (some d) (.lp d 0))
   | false=>none
def kQ (E:Env) (ae:a6):List Operand→Option (List AV)
 | []=>some []
 | x :: l=>match bw E ae x,kQ E ae l with
  | .v a,some r=>some (a :: r)
  | _,_=>none
def KX (E:Env) (ae:a6):List (Nat × Operand)→Option (List (Nat × AV))
 | []=>some []
 | (i,x) :: l=>match bw E ae x,KX E ae l with
  | .v a,some r=>some ((i,a) :: r)
  | _,_=>none
def placeOf:TK→Nat→Option (Nat × Nat)
 | .st fs,j=>match nth fs j with
  | some (o,sz,_)=>some (o,sz)
  | none=>none
 | .arr _ esz _,j=>some (j * esz,esz)
 | _,_=>none
def su (place:Nat→Option (Nat × Nat)) (cells:List AV):List (Nat × AV)→Option (List AV)
 | []=>some cells
 | (i,v) :: rest=>match place i with
  | none=>none
  | some (off,sz)=>
   if v.aR&&Nat.beq v.cells.length sz&&Nat.ble (off+sz) cells.length then su place (aZ cells off v.cells) rest else none
def Ap (esz:Nat) (es:List AV):List (Nat × AV)→Option (List AV)
 | []=>some es
 | (i,v) :: rest=>
  if v.aR&&Nat.beq v.cells.length esz&&Nat.ble (i+1) es.length&&v.closed then Ap esz (ay es i v) rest else none
def lI (E:Env) (s:St) (t:TypeId) (parts:List (Nat × Operand)):Option AV:=
 match E.ti t,KX E s.ae parts with
 | some i,some ps=>match i.zero with
  | some z=>match su (placeOf i.k) z.cells ps with
   | some cs=>if i.agg&&z.aR then some (.agg cs) else none
   | none=>none
  | none=>none
 | _,_=>none
def xD:List (Nat × AV)→List (Nat × AV)
 | []=>[]
 | (i,v) :: l=>(i,v.fJ) :: xD l
def bX (E:Env) (s:St) (t:TypeId) (len:Nat) (parts:List (Nat × Operand)):Option AV:=
 match E.ti t,KX E s.ae parts with
 | some i,some ps=>match i.k with
  | .sl _ esz _ _ (some z)=>
    if Nat.beq z.cells.length esz&&Nat.ble 1 esz&&Nat.ble (len * esz) 16777216&&z.aR&&z.closed then
     match Ap esz (List.replicate len z) (xD ps) with
     | some es=>some (.list .full esz es)
     | none=>none
    else none
  | _=>none
 | _,_=>none
def pZ (E:Env) (s:St) (t:TypeId) (p:SV):Option AV:=
 match E.ti t,lH s p with
 | some i,some (cs,off)=>match Ed off i.size cs with
  | some l=>ra i.agg l
  | none=>none
 | _,_=>none
def iP (E:Env) (s:St) (t:TypeId) (p x:SV):Option St:=
 match E.ti t,x with
 | some i,.v v=>
  if v.aR&&Nat.beq v.cells.length i.size then
   match p with
   | .lp k off=>match dc s.boxes k with
    | some cs=>if Nat.ble (off+v.cells.length) cs.length then some (s.tf k (aZ cs off v.cells)) else none
    | none=>none
   | .v (.ptr id off)=>match nth s.G id with
    | some (.row cs el)=>if Nat.ble (off+v.cells.length) cs.length then some (s.bW (ay s.G id (.row (aZ cs off v.cells) el))) else none
    | _=>none
   | _=>none
  else none
 | _,_=>none
def ah (es:List AV) (n:Nat):AV:=match nth es n with
 | some e=>e
 | none=>eR
def ic:List GO→Nat→TypeId→Nat→Option Nat
 | [],_,_,_=>none
 | .a7 _ sz e :: G,bG,e',i=>match ic G bG e' (i+1) with
  | some j=>some j
  | none=>bif Nat.beq sz bG&&Nat.beq e e' then some i else none
 | _ :: G,bG,e',i=>ic G bG e' (i+1)
def aj.fin (G:List GO):aj→aj
 | .a7 e sz p=>match ic G sz e 0 with
  | some id=>.a7 id sz p
  | none=>.a7 e sz p
 | .agg ps=>.agg (UH ps)
 | p=>p
where
 UH:aH→aH
  | .nil=>.nil
  | .cons p ps=>.cons (match p with
   | .a7 e sz q=>match ic G sz e 0 with
    | some id=>.a7 id sz q
    | none=>.a7 e sz q
   | p=>p) (UH ps)
def Px (E:Env) (G:List GO) (t:TypeId):Option aj:=match E.Xp t with
 | some p=>some (p.fin G)
 | none=>E.Pw t
def ui (E:Env) (s:St) (id f i sz:Nat) (t:TypeId):Option (Bool × AV):=match nth s.G id with
 | some (.cO es bG _)=>match Px E s.G t with
  | some p=>if Nat.beq sz bG then some (decide (f=es.length)&&decide (i < es.length)&&p.fits (ah es i),p.enc (p.bi (ah es i))) else none
  | none=>if Nat.beq sz bG then some (decide (f=es.length)&&decide (i < es.length),ah es i) else none
 | _=>none
def xF (E:Env) (s:St) (t:TypeId) (p:SV):Option (Bool × AV):=match p with
 | .v (.gp id f i off sz ty)=>match E.ti t,ui E s id f i sz ty with
  | some ti,some (c,v)=>match Ed off ti.size v.cells with
   | some l=>match ra ti.agg l with
    | some r=>some (c,r)
    | none=>none
   | none=>none
  | _,_=>none
 | p=>match pZ E s t p with
  | some v=>some (true,v)
  | none=>none
def iQ (E:Env) (s:St) (t:TypeId) (p x:SV):Option (Bool × St):=match p with
 | .v (.gp id f i off sz ty)=>match E.ti t,x,nth s.G id with
  | some ti,.v x,some (.cO es bG el)=>
   if x.aR&&Nat.beq x.cells.length ti.size&&Nat.beq sz bG then
    if Nat.beq off 0&&Nat.beq ti.size sz then some (decide (f=es.length)&&decide (i < es.length),s.bW (ay s.G id (.cO (ay es i x) bG el)))
    else match ui E s id f i sz ty with
     | some (c,.agg cs)=>if Nat.ble (off+ti.size) cs.length&&Nat.beq cs.length sz then some (c,s.bW (ay s.G id (.cO (ay es i (.agg (aZ cs off x.cells))) bG el))) else none
     | _=>none
   else none
  | _,_,_=>none
 | p=>match iP E s t p x with
  | some s'=>some (true,s')
  | none=>none
def jv (E:Env) (t:TypeId) (x ix:SV):Option (Bool × SV):=
 match E.ti t,ix with
 | some i,.v (.int _ n)=>match i.k,x with
  | .sl _ esz _ _ _,.v (.list _ sz es)=>if Nat.beq sz esz || es.isEmpty then
    match E.Pw t with
    | some p=>some (decide (0≤n∧n < es.length)&&p.fits (ah es n.toNat),.v (.ep (p.enc (p.bi (ah es n.toNat))).cells))
    | none=>some (decide (0≤n∧n < es.length),.v (.ep (ah es n.toNat).cells))
   else none
  | .sl _ esz _ _ _,.v (.ja id off sz len _)=>if Nat.beq sz esz then some (decide (0≤n∧n < len),.v (.ptr id (off+n.toNat * sz))) else none
  | .sl _ esz _ _ _,.v (.du id f off sz len)=>if Nat.beq sz esz then some (decide (0≤n∧n < len),.v (.gp id f (off+n.toNat) 0 sz t)) else none
  | .arr len esz _,.v (.ep cs)=>match E.Pw t with
   | some p=>if Nat.beq esz 1&&Nat.ble len cs.length then some (decide (0≤n∧n < len)&&p.fits (ah cs n.toNat),.v (.ep [p.enc (p.bi (ah cs n.toNat))])) else none
   | none=>some (decide (0≤n∧n < len),.v (.ep (eK (n.toNat * esz) cs)))
  | .arr len esz _,p=>match xC (n.toNat * esz) p with
   | some q=>some (decide (0≤n∧n < len),q)
   | none=>none
  | _,_=>none
 | _,_=>none
def jw (E:Env) (t:TypeId) (x:SV) (j:Nat):Option SV:=
 match E.ti t with
 | some i=>match i.k with
  | .st fs=>match nth fs j with
   | some (o,sz,_)=>if Nat.ble 1 sz then xC o x else none
   | none=>none
  | _=>none
 | none=>none
def Cm (E:Env) (t:TypeId) (x:SV) (j:Nat):Option AV:=
 match E.ti t,x with
 | some i,.v (.agg cs)=>match i.k with
  | .st fs=>match nth fs j with
   | some (o,sz,ag)=>if ag then (match Ed o sz cs with | some l=>ra true l | none=>none) else (match Ed o 1 cs with | some l=>ra false l | none=>none)
   | none=>none
  | _=>none
 | _,_=>none
def Cn (E:Env) (t:TypeId) (x ix:SV):Option (Bool × AV):=
 match E.ti t,x,ix with
 | some i,.v (.str l),.v (.int _ n)=>match i.k with
  | .str=>some (decide (0≤n∧n < l.length),.int .u8 (l.getD n.toNat 0).toNat)
  | _=>none
 | some i,.v (.agg cs),.v (.int _ n)=>match i.k with
  | .arr len esz ag=>match (if ag then (match Ed (n.toNat * esz) esz cs with | some l=>ra true l | none=>none) else (match Ed (n.toNat * esz) 1 cs with | some l=>ra false l | none=>none)) with
   | some v=>some (decide (0≤n∧n < len),v)
   | none=>none
  | _=>none
 | _,_,_=>none
def yO (y:Nat):SV→Option (Bool × Nat)
 | .v (.int _ n)=>some (decide (0≤n∧n≤y),n.toNat)
 | _=>none
def cN {α:Type} (lo hi:Nat) (l:List α):List α:=(l.take hi).drop lo
def lJ (E:Env) (ae:a6):Option Operand→Option (Option SV)
 | none=>some none
 | some x=>some (some (bw E ae x))
def Co (len:Nat) (lo hi:Option SV):Option (Bool × Nat × Nat):=
 match (match hi with | none=>some (true,len) | some h=>yO len h) with
 | none=>none
 | some (c1,h)=>match (match lo with | none=>some (true,0) | some l=>yO h l) with
  | none=>none
  | some (c2,l)=>some (c1&&c2,l,h)
def UI (agg:Bool) (l:List AV):AV:=match agg with
 | true=>.agg l
 | false=>dG l
def gi (agg:Bool) (sz:Nat):Nat→List AV→List AV
 | 0,_=>[]
 | n+1,cs=>UI agg (cs.take sz) :: gi agg sz n (cs.drop sz)
def Cp (ag:Bool) (e:AV):Bool:=e.aR&&(ag || e.one)&&e.closed
def yP (E:Env) (t:TypeId) (x:SV) (lo hi:Option SV) (mx:Option Operand):Option (Bool × AV):=
 match E.ti t,mx with
 | some i,none=>match i.k,x with
  | .str,.v (.str l)=>match Co l.length lo hi with
   | some (c,a,b)=>some (c,.str (cN a b l))
   | none=>none
  | .sl _ esz _ _ _,.v (.list k sz es)=>
   if Nat.beq sz esz || es.isEmpty then
    match Co es.length lo hi with
    | some (c,a,b)=>some (c,.list (match k with | .nil=>.nil | .full=>(match hi with | none=>.full | some _=>.ka) | _=>.ka) esz (cN a b es))
    | none=>none
   else none
  | .sl _ esz _ _ _,.v (.ja id off sz len cap)=>
   if Nat.beq sz esz then
    match Co len lo hi with
    | some (c,a,b)=>some (c,.ja id (bif Nat.beq cap a then off else off+a * sz) sz (b - a) (cap - a))
    | none=>none
   else none
  | .sl _ esz _ _ _,.v (.du id f off sz len)=>
   if Nat.beq sz esz then
    match Co len lo hi with
    | some (c,a,b)=>some (c,.du id f (off+a) sz (b - a))
    | none=>none
   else none
  | .arr len esz ag,.v (.ep cs)=>match lo,hi with
   | none,none=>if Nat.ble (len * esz) cs.length&&Nat.ble 1 esz&&(ag || Nat.beq esz 1)&&allFit (Cp ag) (gi ag esz len cs) then some (true,.list .full esz (gi ag esz len cs)) else none
   | _,_=>none
  | _,_=>none
 | _,_=>none
def Hf (G:List GO) (id n:Nat) (f sz:Nat) (e:TypeId):List GO:=ay G id (.tok (f+n) sz e)
def Fx (fs:List Nat) (j n:Nat):List Nat:=bif Nat.beq j fs.length then fs++[n] else ay fs j n
def Lh (fs:List Nat) (j n:Nat):Bool:=decide (nth fs j=some n) || (Nat.beq j fs.length&&Nat.beq n 0)
def fh (G:List GO) (elem esz bq:Nat) (x:AV) (ys:List AV):Option (Bool × AV × List GO):=
 match x,ys with
 | .list k sz es,[]=>match k with
  | .nil=>some (true,.list .nil sz es,G)
  | k=>some (true,.list k sz es,G)
 | .list k sz es,y :: ys=>
  match k with
  | .nil=>some (decide ((es.length+(y :: ys).length) * bq≤140737488355328),.list (.own G.length) esz (es++(y :: ys)),G++[.tok (es.length+(y :: ys).length) esz elem])
  | .full=>if Nat.beq sz esz then some (decide ((es.length+(y :: ys).length) * bq≤140737488355328),.list (.own G.length) esz (es++(y :: ys)),G++[.tok (es.length+(y :: ys).length) esz elem]) else none
  | .own id=>match nth G id with
   | some (.tok f bG e')=>if Nat.beq bG esz&&Nat.beq e' elem&&Nat.beq sz esz then
     some (decide (f=es.length)&&decide ((es.length+(y :: ys).length) * bq≤140737488355328),.list (.own id) esz (es++(y :: ys)),Hf G id (y :: ys).length f esz elem) else none
   | _=>none
  | .a7 id j=>match nth G id with
   | some (.a7 fs bG e')=>if Nat.beq bG esz&&Nat.beq e' elem&&Nat.beq sz esz then
     some (Lh fs j es.length&&decide ((es.length+(y :: ys).length) * bq≤140737488355328),.list (.a7 id j) esz (es++(y :: ys)),ay G id (.a7 (Fx fs j (es.length+(y :: ys).length)) esz elem)) else none
   | _=>none
  | .ka=>none
 | .du id f off sz len,[]=>some (true,.du id f off sz len,G)
 | .du id f off sz len,y :: ys=>match nth G id with
  | some (.cO es bG e')=>if Nat.beq bG esz&&Nat.beq e' elem&&Nat.beq sz esz then
    some (decide (f=es.length)&&decide (off=0)&&decide (len=f)&&decide ((es.length+(y :: ys).length) * bq≤140737488355328),.du id (es.length+(y :: ys).length) 0 esz (es.length+(y :: ys).length),ay G id (.cO (es++(y :: ys)) esz elem)) else none
  | _=>none
 | _,_=>none
def p0 (b:UInt8):AV:=.int .u8 b.toNat
def gE (es:List AV):List UInt8:=es.map fun a=>UInt8.ofNat a.kb.toNat
def uj (es:List AV):List UInt8:=es.flatMap fun a=>(Utf8.encode a.kb).data.toList
def Fy:AV→List AV→Option AV
 | x,[]=>some x
 | .int k x,.int k' y :: l=>if k=k' then Fy (.int k (if y > x then y else x)) l else none
 | _,_=>none
def Cq:AV→List AV→Option AV
 | x,[]=>some x
 | .int k x,.int k' y :: l=>if k=k' then Cq (.int k (if y < x then y else x)) l else none
 | .str x,.str y :: l=>Cq (.str (bif Op.bytesLess x y || x == y then x else y)) l
 | _,_=>none
def ar:List AV→List AV
 | []=>[]
 | e :: es=>e.cells++ar es
def p9 (s:St) (esz:Nat) (d x:AV):Option (Nat × List GO):=
 match d with
 | .ja id off sz len _=>match nth s.G id with
  | some (.row cs el)=>
   if Nat.beq sz esz then
    match x with
    | .list _ bG es=>if Nat.beq bG esz || es.isEmpty then
      let n:=Nat.min es.length len
      let l:=ar (es.take n)
      if Nat.ble (off+l.length) cs.length then some (n,ay s.G id (.row (aZ cs off l) el)) else none
     else none
    | .str bs=>
      if Nat.beq esz 1&&Nat.ble (off+(bs.take (Nat.min bs.length len)).length) cs.length then some (Nat.min bs.length len,ay s.G id (.row (aZ cs off ((bs.take (Nat.min bs.length len)).map p0)) el)) else none
    | .ja iN eT bG Cr _=>match nth s.G iN with
     | some (.row cs' _)=>
      let n:=Nat.min Cr len
      match Ed eT (n * esz) cs' with
      | some l=>if Nat.beq bG esz&&Nat.ble (off+l.length) cs.length then some (n,ay s.G id (.row (aZ cs off l) el)) else none
      | none=>none
     | _=>none
    | _=>none
   else none
  | _=>none
 | .du id f off sz len=>match nth s.G id,x with
  | some (.cO es bG el),.list _ Yt xs=>if Nat.beq sz esz&&Nat.beq bG sz&&(Nat.beq Yt esz || xs.isEmpty)&&Nat.ble f es.length&&Nat.ble es.length f&&Nat.ble (off+Nat.min xs.length len) es.length then
    some (Nat.min xs.length len,ay s.G id (.cO (aZ es off (xs.take (Nat.min xs.length len))) bG el)) else none
  | _,_=>none
 | _=>none
def bJ (E:Env) (s:St) (dst:Option Tmp) (b:Builtin) (args:List AV) (tys:List TypeId):Option (Bool × St):=
 match b,args with
 | .len,[x]=>match tys with
  | t :: _=>match E.ti t with
   | some i=>match i.k,x with
    | .str,.str l=>some (true,s.put dst (.v (.int .i64 l.length)))
    | .sl ..,.list _ _ es=>some (true,s.put dst (.v (.int .i64 es.length)))
    | .sl ..,.ja _ _ _ len _=>some (true,s.put dst (.v (.int .i64 len)))
    | .sl ..,.du _ _ _ _ len=>some (true,s.put dst (.v (.int .i64 len)))
    | .arr n _ _,_=>some (true,s.put dst (.v (.int .i64 n)))
    | .map ..,.ju=>some (true,s.put dst (.v (.int .i64 0)))
    | .map ..,.map id=>match nth s.G id with
     | some (.map es)=>some (true,s.put dst (.v (.int .i64 es.length)))
     | _=>none
    | _,_=>none
   | none=>none
  | _=>none
 | .append,[x,.list _ sz ys]=>match tys with
  | [t,u]=>match E.ti t with
   | some i=>match i.k with
    | .sl elem esz _ bq (some z)=>
     if (Nat.beq sz esz || ys.isEmpty)&&Nat.beq t u&&Nat.ble 1 esz&&Nat.ble 1 bq&&Nat.beq z.cells.length esz&&z.aR then
      match fh s.G elem esz bq x ys with
      | some (c,v,G')=>some (c,(s.bW G').put dst (.v v))
      | none=>none
     else none
    | _=>none
   | none=>none
  | _=>none
 | .append,[x,.str bs]=>match tys with
  | [t,u]=>match E.ti t,E.ti u with
   | some i,some j=>match i.k,j.k with
    | .sl elem esz _ bq (some z),.str=>
     if Nat.beq esz 1&&Nat.ble 1 bq&&Nat.beq z.cells.length esz&&z.aR then
      match fh s.G elem esz bq x (bs.map p0) with
      | some (c,v,G')=>some (c,(s.bW G').put dst (.v v))
      | none=>none
     else none
    | _,_=>none
   | _,_=>none
  | _=>none
 | .copy,[d,x]=>match tys with
  | t :: _=>match E.ti t with
   | some i=>match i.k with
    | .sl _ esz _ _ _=>match p9 s esz d x with
     | some (n,G')=>some (true,(s.bW G').put dst (.v (.int .i64 n)))
     | none=>none
    | _=>none
   | none=>none
  | _=>none
 | .clear,[x]=>match dst,tys,x with
  | none,[t],.du id f off sz len=>match E.ti t,nth s.G id with
   | some i,some (.cO es bG el)=>match i.k with
    | .sl elem esz _ _ (some z)=>if Nat.beq sz esz&&Nat.beq bG sz&&Nat.beq el elem&&Nat.beq z.cells.length esz&&z.aR&&z.closed then
      some (decide (f=es.length)&&decide (off+len≤es.length),s.bW (ay s.G id (.cO (aZ es off (List.replicate len z)) bG el))) else none
    | _=>none
   | _,_=>none
  | _,_,_=>none
 | .max,x :: l=>match Fy x l with
  | some v=>some (true,s.put dst (.v v))
  | none=>none
 | .min,x :: l=>match Cq x l with
  | some v=>some (true,s.put dst (.v v))
  | none=>none
 | _,_=>none
def EK.plain:EK→Bool
 | .bool | .int | .str=>true
 | .st _=>true
 | _=>false
def EK.wide:EK→Bool
 | .st _=>true
 | _=>false
def fV:AV→Bool
 | .bool _=>true
 | .int _ _=>true
 | .str _=>true
 | _=>false
def mK:AV→AV→Bool
 | .bool a,.bool b=>a == b
 | .int k a,.int l b=>decide (k=l)&&a == b
 | .str a,.str b=>a == b
 | _,_=>false
def kV:List AV→List AV→Bool
 | [],[]=>true
 | a :: l,b :: r=>mK a b&&kV l r
 | _,_=>false
def km:AV→AV→Bool
 | .agg xs,.agg ys=>kV xs ys
 | _,_=>false
def Cd (e:EK) (a b:AV):Option Bool:=match kd e a b with
 | some true=>bif e.wide&&!km a b then none else some true
 | r=>r
def gU (e:EK) (k:AV):List (AV × AV)→Option (Option AV)
 | []=>some none
 | (k',v) :: l=>match Cd e k k' with
  | some true=>some (some v)
  | some false=>gU e k l
  | none=>none
def rk (e:EK) (k v:AV):List (AV × AV)→Option (List (AV × AV))
 | []=>some [(k,v)]
 | (k',v') :: l=>match Cd e k k' with
  | some true=>some ((k,v) :: l)
  | some false=>match rk e k v l with
   | some r=>some ((k',v') :: r)
   | none=>none
  | none=>none
def gF:EK→AV→Bool
 | .bool,.bool _=>true
 | .int,.int _ _=>true
 | .str,.str _=>true
 | .st fs,.agg cs=>cs.all fV&&(rb fs cs cs).isSome
 | _,_=>false
def mapOf (s:St):SV→Option (List (AV × AV))
 | .v .ju=>some []
 | .v (.map id)=>match nth s.G id with
  | some (.map es)=>some es
  | _=>none
 | _=>none
def kC (G:List GO) (id:Nat):List Nat:=match nth G id with
 | some (.a7 fs _ _)=>fs
 | _=>[]
def Aq (E:Env) (G:List GO) (t:TypeId) (z:AV):AV:=match E.Xp t,z with
 | some (.a7 e sz _),.list .nil _ []=>match ic G sz e 0 with
  | some id=>.list (.a7 id (kC G id).length) sz []
  | none=>z
 | _,_=>z
def ij (E:Env) (s:St) (t:TypeId) (m k:SV):Option (AV × Bool):=match E.ti t,mapOf s m,k with
 | some i,some es,.v k=>match i.k with
  | .map kt _ (some z)=>match E.ti kt with
   | some j=>if j.ek.plain&&gF j.ek k then match gU j.ek k es with
     | some (some v)=>some (v,true)
     | some none=>some (z,false)
     | none=>none
    else none
   | none=>none
  | _=>none
 | _,_,_=>none
def kn (E:Env) (s:St) (t:TypeId) (m k:SV):Option (AV × Bool):=match ij E s t m k with
 | some (v,false)=>some (Aq E s.G t v,false)
 | r=>r
def eh (E:Env) (s:St) (t:TypeId) (m k x:SV):Option St:=match E.ti t,m,k,x with
 | some i,.v (.map id),.v k,.v x=>match i.k,nth s.G id with
  | .map kt _ _,some (.map es)=>match E.ti kt with
   | some j=>if j.ek.plain&&gF j.ek k then match rk j.ek k x es with
     | some es'=>some (s.bW (ay s.G id (.map es')))
     | none=>none
    else none
   | none=>none
  | _,_=>none
 | _,_,_,_=>none
def nV (l:List UInt8) (pos:Nat):Nat × Nat:=
 bif Nat.blt (l.getD pos 0).toNat 128 then ((l.getD pos 0).toNat,1) else Utf8.decode ⟨⟨l⟩⟩ pos
def ko (s:St) (dst:Option Tmp) (x:SV):Option St:=match x with
 | .v (.ptr id 0)=>match nth s.G id with
  | some (.fB l pos)=>bif Nat.blt pos l.length then
    match nV l pos with
    | (c,n)=>some ((s.bW (ay s.G id (.fB l (pos+n)))).put dst (.v (.bg [.bool true,.int .i64 pos,.int .i32 c])))
   else some (s.put dst (.v (.bg [.bool false])))
  | _=>none
 | _=>none
def dx (es:List (AV × AV)) (i:Nat):AV × AV:=match nth es i with
 | some e=>e
 | none=>(eR,eR)
def Qw (E:Env) (kt:TypeId):Option aj:=match E.Pw kt with
 | some p=>some p
 | none=>match E.ti kt with
  | some i=>match i.k with
   | .int k=>some (.int k)
   | .str=>some .str
   | _=>none
  | none=>none
def qa (E:Env) (t:TypeId) (e:AV × AV):Bool × AV × AV:=match E.ti t with
 | some i=>match i.k with
  | .map kt _ _=>match E.Pw t,Qw E kt with
   | some pv,some pk=>(pk.fits e.1&&pv.fits e.2,pk.enc (pk.bi e.1),pv.enc (pv.bi e.2))
   | _,_=>(true,e.1,e.2)
  | _=>(true,e.1,e.2)
 | none=>(true,e.1,e.2)
def xG (E:Env) (s:St) (dst:Option Tmp) (x:SV):Option (Bool × St × List Nat × (Nat→Bool × St)):=match x with
 | .v (.ptr id 0)=>match nth s.G id with
  | some (.my pj n left _ t)=>match nth s.G pj with
   | some (.map es)=>some (decide (es.length=n),s.put dst (.v (.bg [.bool false])),left,
     fun i=>((qa E t (dx es i)).1,(s.bW (ay s.G id (.my pj n (left.erase i) (some i) t))).put dst (.v (.bg [.bool true,(qa E t (dx es i)).2.1,(qa E t (dx es i)).2.2]))))
   | _=>none
  | _=>none
 | _=>none
def rm (E:Env) (s:St) (o:Oper):Option (Bool × St × List Nat × (Nat→Bool × St)):=match o.op with
 | .next x false=>xG E s o.dst (bw E s.ae x)
 | _=>none
def Yu (E:Env) (op:BinOp) (t:TypeId) (a b:AV):Option Bool:=match op,E.ti t with
 | .eql,some i=>kd i.ek a b
 | .neq,some i=>match kd i.ek a b with
  | some r=>some (!r)
  | none=>none
 | _,_=>none
def jb (E:Env) (s:St) (t:TypeId) (len:Nat) (parts:List (Nat × Operand)):Option (List AV):=
 match E.ti t,KX E s.ae parts with
 | some i,some ps=>match i.k with
  | .sl _ esz _ _ (some z)=>
    if Nat.beq z.cells.length esz&&Nat.ble 1 esz&&Nat.ble (len * esz) 16777216&&z.aR then
     su (fun i=>some (i * esz,esz)) (ar (List.replicate len z)) (xD ps)
    else none
  | _=>none
 | _,_=>none
def ik (E:Env) (f:FuncId) (s:St) (o:Oper):Option St:=match o.op with
 | .buildSlice t len parts=>match o.dst with
  | some d=>if E.wW f d then match E.ti t with
    | some i=>match i.k,bX E s t len parts.toList with
     | .sl elem _ _ _ _,some (.list _ esz es)=>some ((s.dw (.row (ar es) elem)).put (some d) (.v (.ja s.G.length 0 esz len len)))
     | .sl elem esz _ _ _,none=>match jb E s t len parts.toList with
      | some cs=>some ((s.dw (.row cs elem)).put (some d) (.v (.ja s.G.length 0 esz len len)))
      | none=>none
     | _,_=>none
    | none=>none
   else if E.wW f (d+196608) then match E.ti t with
    | some i=>match i.k,bX E s t len parts.toList with
     | .sl elem _ _ _ _,some (.list _ esz es)=>if Nat.ble len 65536 then some ((s.dw (.cO es esz elem)).put (some d) (.v (.du s.G.length len 0 esz len))) else none
     | _,_=>none
    | none=>none
   else if E.wW f (d+65536) then match E.ti t with
    | some i=>match i.k,bX E s t len parts.toList with
     | .sl elem _ _ _ _,some (.list _ esz es)=>if Nat.ble len 65536 then some ((s.dw (.tok len esz elem)).put (some d) (.v (.list (.own s.G.length) esz es))) else none
     | _,_=>none
    | none=>none
   else none
  | none=>none
 | _=>none
def xH (wk:Bool) (es:List AV):List AV:=match wk with
 | true=>es.map AV.fJ
 | false=>es
def kW (wk:Bool):List AV→List GO→Bool × List AV × List GO
 | [],G=>(true,[],G)
 | .du id f 0 sz len :: l,G=>match nth G id with
  | some (.cO es bG _)=>match kW wk l (ay G id .dead) with
   | (c,r,G')=>(decide (f=es.length)&&decide (len=es.length)&&Nat.beq sz bG&&aA (xH wk es)&&c,.list .ka sz (xH wk es) :: r,G')
  | _=>match kW wk l G with
   | (_,r,G')=>(false,r,G')
 | a :: l,G=>match kW wk l G with
  | (c,r,G')=>(c,a :: r,G')
def nW (cut wk:Bool) (s:St) (t:Tmp):Option (Bool × St):=match lk s.ae t with
 | .v (.du id f off sz len)=>match nth s.G id with
  | some (.cO es bG _)=>if Nat.beq off 0&&Nat.beq sz bG then
    some (decide (f=es.length)&&(bif cut then decide (len≤es.length) else decide (len=es.length))&&aA (xH wk es),⟨.put t (.v (.list .ka sz (xH wk (bif cut then es.take len else es)))) :: s.ae,s.boxes,ay s.G id .dead,s.marks,s.ro,s.n⟩) else none
  | _=>none
 | .v (.ptr id 0)=>match nth s.G id with
  | some (.row cs _)=>some (aA cs,⟨.put t (.v (.ep cs)) :: s.ae,s.boxes,ay s.G id .dead,s.marks,s.ro,s.n⟩)
  | _=>none
 | .v (.agg cs)=>match kW wk cs s.G with
  | (c,cs',G')=>some (c,⟨.put t (.v (.agg cs')) :: s.ae,s.boxes,G',s.marks,s.ro,s.n⟩)
 | _=>none
def fW (cut wk:Bool):List Operand→St→Bool × St
 | [],s=>(true,s)
 | .tmp t :: l,s=>match nW cut wk s t with
  | some (c,s')=>match fW cut wk l s' with
   | (c',s2)=>(c&&c',s2)
  | none=>fW cut wk l s
 | _ :: l,s=>fW cut wk l s
def Fz (E:Env) (f:FuncId) (s:St) (o:Oper):Option (Bool × St):=match o.dst with
 | some d=>if E.wW f (d+262144) then some (fW (E.wW f (d+393216)) (E.wW f (d+458752)) o.op.operands.toList s) else none
 | none=>none
def kX (E:Env) (s:St) (a b:TypeId) (x:SV):Option (Bool × AV):=
 match E.ti a,E.ti b,x with
 | some i,some j,.v x=>match j.k,x with
  | .int k,.int _ n=>some (true,.int k (k.wrap n))
  | .str,.list _ sz es=>match i.k with
   | .sl elem 1 _ _ _=>match E.ti elem with
    | some e=>match e.k with
     | .int .u8=>some ((Nat.beq sz 1 || es.isEmpty)&&allFit (aj.fits (.int .u8)) es,.str (gE es))
     | .int .i32=>some ((Nat.beq sz 1 || es.isEmpty)&&allFit (aj.fits (.int .i32)) es,.str (uj es))
     | _=>none
    | none=>none
   | _=>none
  | .str,.ja id off 1 len _=>match i.k,nth s.G id with
   | .sl elem 1 _ _ _,some (.row cs _)=>match E.ti elem with
    | some e=>match e.k with
     | .int .u8=>some (Nat.ble (off+len) cs.length&&allFit (aj.fits (.int .u8)) (cN off (off+len) cs),.str (gE (cN off (off+len) cs)))
     | _=>none
    | none=>none
   | _,_=>none
  | _,_=>none
 | _,_,_=>none
def FA (id sz:Nat):List AV→List Nat→Option (List AV × List Nat)
 | [],fs=>some ([],fs)
 | .list .nil _ [] :: l,fs=>match FA id sz l (fs++[0]) with
  | some (r,yQ)=>some (.list (.a7 id fs.length) sz [] :: r,yQ)
  | none=>none
 | .list .full bG es :: l,fs=>if Nat.beq sz bG then match FA id sz l (fs++[es.length]) with
   | some (r,yQ)=>some (.list (.a7 id fs.length) sz es :: r,yQ)
   | none=>none
  else none
 | _ :: _,_=>none
def tF (e:EK) (k k':AV):Bool:=match Cd e k k' with
 | some b=>b
 | none=>false
def eo (e:EK) (k:AV):List (AV × AV)→Bool
 | []=>true
 | (k',_) :: l=>(Cd e k k').isSome&&eo e k l
def er (e:EK) (k:AV):List (AV × AV)→Option AV
 | []=>none
 | (k',v) :: l=>bif tF e k k' then some v else er e k l
def dy (e:EK) (k v:AV):List (AV × AV)→List (AV × AV)
 | []=>[(k,v)]
 | (k',v') :: l=>bif tF e k k' then (k,v) :: l else (k',v') :: dy e k v l
def b9 (e:EK) (k z:AV) (es:List (AV × AV)):AV:=(er e k es).getD z
def fK (e:EK) (k:AV):List (AV × AV)→Nat
 | []=>0
 | (k',_) :: l=>bif tF e k k' then 0 else fK e k l+1
def gG:List (AV × AV)→Nat→AV→List (AV × AV)
 | [],_,_=>[]
 | (k,_) :: l,0,x=>(k,x) :: l
 | e :: l,n+1,x=>e :: gG l n x
def rn (E:Env) (s:St) (x:SV):Option (Bool × AV):=match x with
 | .v (.ptr id 0)=>match nth s.G id with
  | some (.my pj n _ (some i) t)=>match nth s.G pj with
   | some (.map es)=>some (decide (es.length=n)&&decide (i < n)&&(qa E t (dx es i)).1,.bg [(qa E t (dx es i)).2.1,(qa E t (dx es i)).2.2])
   | _=>none
  | _=>none
 | _=>none
def fj (E:Env) (s:St) (t:TypeId) (m k:SV):Option (Bool × AV × St):=match E.ti t,m,k with
 | some i,.v (.map id),.v k=>match i.k,nth s.G id with
  | .map kt _ (some z),some (.map es)=>match E.ti kt with
   | some j=>if j.ek.plain&&gF j.ek k then
     some (eo j.ek k es,.bg [b9 j.ek k z es,.int .i64 (fK j.ek k es:Nat)],s.bW (ay s.G id (.map (dy j.ek k (b9 j.ek k z es) es)))) else none
   | none=>none
  | _,_=>none
 | _,_,_=>none
def dH (s:St) (m st x:SV):Option (Bool × St):=match m,st,x with
 | .v (.map id),.v (.int .i64 n),.v v=>match nth s.G id with
  | some (.map es)=>some (decide (0≤n)&&decide (n.toNat < es.length),s.bW (ay s.G id (.map (gG es n.toNat v))))
  | _=>none
 | _,_,_=>none
def fL (E:Env) (f:FuncId) (s:St) (o:Oper):Option (Bool × St):=match o.dst with
 | some d=>if E.wW f (d+524288) then match o.op with
   | .call { callee:=.builtin .append,args,argTypes }=>match kQ E s.ae args.toList,argTypes.toList with
    | some [.du id g off sz len,.list k szy (y :: ys)],[t,u]=>match E.ti t with
     | some i=>match i.k with
      | .sl elem esz _ bq (some z)=>match E.ti elem with
       | some j=>match j.k with
        | .sl e2 mH _ _ _=>match ic s.G mH e2 0 with
         | some j8=>match FA j8 mH (y :: ys) (kC s.G j8),nth s.G id with
          | some (FB,yQ),some (.cO es bG e')=>
           if Nat.beq szy esz&&Nat.beq bG esz&&Nat.beq e' elem&&Nat.beq sz esz&&Nat.beq t u&&Nat.ble 1 esz&&Nat.ble 1 bq&&Nat.beq z.cells.length esz&&z.aR then
            some (decide (g=es.length)&&decide (off=0)&&decide (len=g)&&decide ((es.length+(y :: ys).length) * bq≤140737488355328),
             (s.bW (ay (ay s.G j8 (.a7 yQ mH e2)) id (.cO (es++FB) esz elem))).put o.dst (.v (.du id (es.length+(y :: ys).length) 0 esz (es.length+(y :: ys).length))))
           else none
          | _,_=>none
         | none=>none
        | _=>none
       | none=>none
      | _=>none
     | none=>none
    | _,_=>none
   | _=>none
  else none
 | none=>none
def sw (E:Env) (f:FuncId) (s:St) (o:Oper):Option (Bool × St):=match o.dst with
 | some d=>if E.wW f (d+524288) then match o.op with
   | .lookup t m k ok=>match E.Xp t,E.ti t,bw E s.ae m,bw E s.ae k with
    | some (.a7 e sz p),some i,.v (.map id),.v k=>match i.k,nth s.G id with
     | .map kt _ (some (.list .nil _ [])),some (.map es)=>match E.ti kt,ic s.G sz e 0 with
      | some j,some j8=>if j.ek.plain&&gF j.ek k then
        some (eo j.ek k es&&(aj.a7 j8 sz p).fits (b9 j.ek k (.list (.a7 j8 (kC s.G j8).length) sz []) es),
         (s.bW (ay s.G j8 (.a7 (kC s.G j8++[0]) sz e))).put o.dst (.v (if ok then .bg [(aj.a7 j8 sz p).enc ((aj.a7 j8 sz p).bi (b9 j.ek k (.list (.a7 j8 (kC s.G j8).length) sz []) es)),.bool (er j.ek k es).isSome]
          else (aj.a7 j8 sz p).enc ((aj.a7 j8 sz p).bi (b9 j.ek k (.list (.a7 j8 (kC s.G j8).length) sz []) es)))))
       else none
      | _,_=>none
     | _,_=>none
    | _,_,_,_=>none
   | _=>none
  else none
 | none=>none
def Yv (E:Env) (f:FuncId) (d:Option Tmp):Bool:=match d with
 | some d=>E.wW f (d+196608)
 | none=>false
def ap (E:Env) (f:FuncId) (s:St) (o:Oper):Option (Bool × St):=
 match o.op with
 | .move x=>match bw E s.ae x with
  | .v a=>some (true,s.put o.dst (.v a))
  | .lp k off=>some (true,s.put o.dst (.lp k off))
  | .none=>some (true,s.put o.dst .none)
 | .assign x=>match bw E s.ae x with
  | .v a=>some (true,s.put o.dst (.v a))
  | .lp k off=>some (true,s.put o.dst (.lp k off))
  | .none=>some (true,s.put o.dst .none)
 | .pick c a b=>match bw E s.ae c,bw E s.ae a,bw E s.ae b with
  | .v (.bool t),.v x,.v y=>some (true,s.put o.dst (.v (yN t x y)))
  | _,_,_=>none
 | .alloc e=>match E.ti e with
  | some i=>match i.zero with
   | some z=>if z.aR then ef E f s o.dst e z.cells else none
   | none=>none
  | none=>none
 | .box t x=>match bw E s.ae x with
  | .v v=>if v.aR then ef E f s o.dst t v.cells else none
  | _=>none
 | .build t parts=>match lI E s t parts.toList with
  | some v=>some (true,s.put o.dst (.v v))
  | none=>none
 | .buildSlice t len parts=>match bX E s t len parts.toList with
  | some v=>some (true,s.put o.dst (.v v))
  | none=>none
 | .load t a=>match xF E s t (bw E s.ae a) with
  | some (c,v)=>some (c,s.put o.dst (.v v))
  | none=>none
 | .store t a x=>match o.dst,iQ E s t (bw E s.ae a) (bw E s.ae x) with
  | none,some (c,s')=>some (c,s')
  | _,_=>none
 | .binOp op t x y _=>match bw E s.ae x,bw E s.ae y with
  | .v a,.v b=>match Ao op a b with
   | some (c,v)=>some (c,s.put o.dst (.v v))
   | none=>match Yu E op t a b with
    | some r=>some (true,s.put o.dst (.v (.bool r)))
    | none=>none
  | _,_=>none
 | .unOp op _ x=>match op,bw E s.ae x with
  | .not,.v (.bool b)=>some (true,s.put o.dst (.v (.bool (!b))))
  | .neg,.v (.int k n)=>some (true,s.put o.dst (.v (.int k (k.wrap (0 - n)))))
  | _,_=>none
 | .convert a b x=>match kX E s a b (bw E s.ae x) with
  | some (c,v)=>some (c,s.put o.dst (.v v))
  | none=>none
 | .nilCheck x=>match bw E s.ae x with
  | .v (.ptr id off)=>some (true,s.put o.dst (.v (.ptr id off)))
  | .lp k off=>some (true,s.put o.dst (.lp k off))
  | _=>none
 | .makeFunc (.func g) first captured=>match kQ E s.ae first.toList,kQ E s.ae captured.toList with
  | some x,some y=>some (true,s.put o.dst (.v (.fn g x y)))
  | _,_=>none
 | .fieldAddr t x j=>match jw E t (bw E s.ae x) j with
  | some p=>some (true,s.put o.dst p)
  | none=>none
 | .field t x j=>match Cm E t (bw E s.ae x) j with
  | some v=>some (true,s.put o.dst (.v v))
  | none=>none
 | .indexAddr t x ix=>match jv E t (bw E s.ae x) (bw E s.ae ix) with
  | some (c,p)=>some (c,s.put o.dst p)
  | none=>none
 | .index t x ix=>match Cn E t (bw E s.ae x) (bw E s.ae ix) with
  | some (c,v)=>some (c,s.put o.dst (.v v))
  | none=>none
 | .slice t x lo hi mx=>match lJ E s.ae lo,lJ E s.ae hi with
  | some l,some h=>match yP E t (bw E s.ae x) l h mx with
   | some (c,v)=>some (c,s.put o.dst (.v v))
   | none=>none
  | _,_=>none
 | .extract x i=>match bw E s.ae x with
  | .v (.bg vs)=>match nth vs i with
   | some v=>some (true,s.put o.dst (.v v))
   | none=>none
  | _=>none
 | .makeSlice t l c=>match E.ti t,bw E s.ae l,bw E s.ae c with
  | some i,.v (.int _ n),.v (.int _ m)=>match i.k with
   | .sl elem esz _ bq (some z)=>
    if Nat.beq z.cells.length esz&&Nat.ble 1 esz&&z.aR then
     if Yv E f o.dst then (if z.closed then some (decide (0≤n∧n≤m∧m≤140737488355328∧m * bq≤140737488355328),
      (s.dw (.cO (List.replicate n.toNat z) esz elem)).put o.dst (.v (.du s.G.length n.toNat 0 esz n.toNat))) else none)
     else some (decide (0≤n∧n≤m∧m≤140737488355328∧m * bq≤140737488355328),
      (s.dw (.row (ar (List.replicate m.toNat z)) elem)).put o.dst (.v (.ja s.G.length 0 esz n.toNat m.toNat)))
    else none
   | _=>none
  | _,_,_=>none
 | .lookup t m k ok=>match kn E s t (bw E s.ae m) (bw E s.ae k) with
  | some (v,b)=>some (true,s.put o.dst (.v (if ok then .bg [v,.bool b] else v)))
  | none=>none
 | .mapUpdate t m k x=>match o.dst,eh E s t (bw E s.ae m) (bw E s.ae k) (bw E s.ae x) with
  | none,some s'=>some (true,s')
  | _,_=>none
 | .insert t m k x=>match o.dst,eh E s t (bw E s.ae m) (bw E s.ae k) (bw E s.ae x) with
  | none,some s'=>some (true,s')
  | _,_=>none
 | .entry x=>match rn E s (bw E s.ae x) with
  | some (c,v)=>some (c,s.put o.dst (.v v))
  | none=>none
 | .mapEntry t m k=>match fj E s t (bw E s.ae m) (bw E s.ae k) with
  | some (c,v,s')=>some (c,s'.put o.dst (.v v))
  | none=>none
 | .entryStore _ m st x=>match o.dst,dH s (bw E s.ae m) (bw E s.ae st) (bw E s.ae x) with
  | none,some (c,s')=>some (c,s')
  | _,_=>none
 | .range t x=>match E.ti t,bw E s.ae x with
  | some i,.v (.str l)=>match i.k with
   | .str=>some (true,(s.dw (.fB l 0)).put o.dst (.v (.ptr s.G.length 0)))
   | _=>none
  | some i,.v (.map id)=>match i.k,nth s.G id with
   | .map _ _ _,some (.map es)=>some (true,(s.dw (.my id es.length (List.range es.length) none t)).put o.dst (.v (.ptr s.G.length 0)))
   | _,_=>none
  | _,_=>none
 | .next x true=>match ko s o.dst (bw E s.ae x) with
  | some s'=>some (true,s')
  | none=>none
 | .makeMap _ none=>some (true,(s.dw (.map [])).put o.dst (.v (.map s.G.length)))
 | .call { callee:=.builtin b,args,argTypes }=>match fL E f s o with
  | some r=>some r
  | none=>match kQ E s.ae args.toList with
   | some l=>bJ E s o.dst b l argTypes.toList
   | none=>none
 | _=>none
end Go.Am
namespace Go.Am
open Go
inductive TR where
 | bA
 | full (f:Nat)
 | tok (f b c:Nat)
inductive RO where
 | none
 | bA
 | bT (b:Nat)
 | tok (f b c:Nat)
 | a7 (ts:List TR)
def RO.has:RO→Nat→Prop
 | .none,_=>False
 | .bA,_=>False
 | .bT b,x=>x=b
 | .tok _ b _,x=>x=b
 | .a7 ts,x=>∃ j f c,nth ts j=some (.tok f x c)
def il (sz:Nat) (es:List AV):Prop:=∀ e∈es,e.cells.length=sz∧e.aR=true∧e.closed=true
def de (sz:Nat) (es:List AV):Prop:=∀ e∈es,e.cells.length=sz∧e.aR=true
theorem il.g {sz:Nat} {es:List AV} (h:il sz es):de sz es:=fun e he=>⟨(h e he).1,(h e he).2.1⟩
structure ak where
 I:Nat→Nat→Prop
 obj:List RO
def Py (b o len cap:Nat):RO→Prop
 | .none=>True
 | .bA=>False
 | .bT _=>False
 | .tok f b' c'=>len≤f∧(len=f→b=b'∧o=0∧cap=c')
 | .a7 _=>False
def Li (b o len cap:Nat):TR→Prop
 | .bA=>False
 | .full f=>len≤f∧(len=f→cap=len)
 | .tok f b' c'=>len≤f∧(len=f→b=b'∧o=0∧cap=c')
def UJ (b o len cap j:Nat):RO→Prop
 | .none=>True
 | .bA=>False
 | .bT _=>False
 | .tok _ _ _=>False
 | .a7 ts=>∃ t,nth ts j=some t∧Li b o len cap t
def rq:RO→Prop
 | .none=>True
 | .bA=>False
 | .bT _=>False
 | .tok _ _ _=>False
 | .a7 _=>True
def lK:RO→Prop
 | .none=>True
 | .bA=>True
 | .bT _=>False
 | .tok f _ _=>1≤f
 | .a7 _=>False
def FC (b o f off sz cap:Nat):RO→Prop
 | .none=>True
 | .bA=>False
 | .bT _=>False
 | .tok f' b' c'=>f≤f'∧(f=f'→b=b'∧off+cap=c'∧(o=off * sz∨cap=0))
 | .a7 _=>False
def Hg (b o f i off sz:Nat):RO→Prop
 | .none=>True
 | .bA=>False
 | .bT _=>False
 | .tok f' b' _=>f≤f'∧(f=f'→b=b'∧o=i * sz+off)
 | .a7 _=>False
def yR (R:ak) (k:LK) (b o len cap:Nat):Prop:=match k with
 | .nil=>False
 | .full=>cap=len
 | .ka=>True
 | .own id=>∃ ro,nth R.obj id=some ro∧Py b o len cap ro
 | .a7 id j=>∃ ro,nth R.obj id=some ro∧UJ b o len cap j ro
mutual
inductive Rel (R:ak) (w:World):AV→Value→Prop
 | bool (b:Bool):Rel R w (.bool b) (.bool b)
 | int (k:IntKind) (n:Int):Rel R w (.int k n) (.int k n)
 | str (l:List UInt8):Rel R w (.str l) (.string ⟨⟨l⟩⟩)
 | agg {cs:List AV} {vs:List Value} (h:aG R w cs vs) (h1:∀ v∈vs,v.oneCell'=true):Rel R w (.agg cs) (.agg ⟨vs⟩)
 | bg {cs:List AV} {vs:List Value} (h:aG R w cs vs):Rel R w (.bg cs) (.tuple ⟨vs⟩)
 | gD:Rel R w .gD (.pointer none)
 | ptr {id off b:Nat} (h:nth R.obj id=some (.bT b)):Rel R w (.ptr id off) (.pointer (some ⟨b,off,none⟩))
 | ep {cs:List AV} {b o:Nat} (h:dp R w b o cs):Rel R w (.ep cs) (.pointer (some ⟨b,o,none⟩))
 | jc {sz:Nat}:Rel R w (.list .nil sz []) (.slice none 0 0)
 | gW {sz:Nat}:Rel R w (.list .ka sz []) (.slice none 0 0)
 | lL {sz:Nat} {a:Addr}:Rel R w (.list .ka sz []) (.slice (some a) 0 0)
 | kY {id sz:Nat} {ro:RO} (h:nth R.obj id=some ro) (ho:lK ro):Rel R w (.list (.own id) sz []) (.slice none 0 0)
 | kD {id j sz:Nat} {ro:RO} (h:nth R.obj id=some ro) (ho:rq ro):Rel R w (.list (.a7 id j) sz []) (.slice none 0 0)
 | list {k:LK} {sz:Nat} {es:List AV} {b o len cap:Nat} (h:fk R w b o sz es) (hl:len=es.length) (hc:len≤cap) (hk:yR R k b o len cap):Rel R w (.list k sz es) (.slice (some ⟨b,o,none⟩) len cap)
 | ja {id off sz len cap b:Nat} (h:nth R.obj id=some (.bT b)) (hc:len≤cap):Rel R w (.ja id off sz len cap) (.slice (some ⟨b,off,none⟩) len cap)
 | iq {id sz:Nat} {ro:RO} (h:nth R.obj id=some ro) (ho:lK ro):Rel R w (.du id 0 0 sz 0) (.slice none 0 0)
 | du {id f off sz len cap b o:Nat} {ro:RO} (h:nth R.obj id=some ro) (ho:FC b o f off sz cap ro) (hc:len≤cap):Rel R w (.du id f off sz len) (.slice (some ⟨b,o,none⟩) len cap)
 | gp {id f i off sz b o:Nat} {t:TypeId} {ro:RO} (h:nth R.obj id=some ro) (ho:Hg b o f i off sz ro):Rel R w (.gp id f i off sz t) (.pointer (some ⟨b,o,none⟩))
 | ju:Rel R w .ju (.map none)
 | map {id b:Nat} (h:nth R.obj id=some (.bT b)):Rel R w (.map id) (.map (some b))
 | cb:Rel R w .cb .nilFunc
 | fn {f:FuncId} {xs ys:List AV} {vs us:List Value} (h:aG R w xs vs) (h':aG R w ys us):Rel R w (.fn f xs ys) (.func (.func f) ⟨vs⟩ ⟨us⟩)
 | yield {id b:Nat} (h:nth R.obj id=some (.bT b)):Rel R w (.yield id) (.func (.yield b) #[] #[])
 | mC:Rel R w .mC .nilIface
 | iface {t:TypeId} {v:AV} {c:Value} (h:Rel R w v c):Rel R w (.iface t v) (.iface t c)
inductive aG (R:ak) (w:World):List AV→List Value→Prop
 | nil:aG R w [] []
 | cons {a:AV} {c:Value} {l:List AV} {cs:List Value} (h:Rel R w a c) (t:aG R w l cs):aG R w (a :: l) (c :: cs)
inductive fk (R:ak) (w:World):Nat→Nat→Nat→List AV→Prop
 | nil {b o sz:Nat}:fk R w b o sz []
 | cons {b o sz:Nat} {e:AV} {es:List AV} (hl:e.cells.length=sz) (ht:e.aR=true) (hk:e.closed=true) (h:dp R w b o e.cells) (t:fk R w b (o+sz) sz es):fk R w b o sz (e :: es)
inductive dp (R:ak) (w:World):Nat→Nat→List AV→Prop
 | nil {b o:Nat}:dp R w b o []
 | cons {b o:Nat} {a:AV} {c:Value} {l:List AV} (hc:w.cell? ⟨b,o,none⟩=some c) (h1:c.oneCell'=true) (hi:R.I b o) (h:Rel R w a c) (t:dp R w b (o+1) l):dp R w b o (a :: l)
end
def kE:TR→TR→Prop
 | .bA,.bA=>True
 | .bA,.full _=>False
 | .bA,.tok f _ _=>1≤f
 | .full _,.bA=>False
 | .full f,.full f'=>f'=f
 | .full f,.tok f' _ _=>f < f'
 | .tok _ _ _,.bA=>False
 | .tok _ _ _,.full _=>False
 | .tok f b c,.tok f' b' c'=>f≤f'∧(f'=f→b'=b∧c'=c)
theorem kE.refl (t:TR):kE t t:=by cases t <;> simp [kE]
theorem kE.trans {a b c:TR} (h:kE a b) (k:kE b c):kE a c:=by
 cases a <;> cases b <;> cases c <;> simp only [kE] at * <;> omega
def rr (ts T2:List TR):Prop:=∀ j t,nth ts j=some t→∃ t',nth T2 j=some t'∧kE t t'
theorem rr.refl (ts:List TR):rr ts ts:=fun _ t h=>⟨t,h,kE.refl t⟩
theorem rr.trans {a b c:List TR} (h:rr a b) (k:rr b c):rr a c:=fun j t hj=>
 let ⟨_,h1,h2⟩:=h j t hj
 let ⟨t2,k1,k2⟩:=k j _ h1
 ⟨t2,k1,h2.trans k2⟩
def ca:RO→RO→Prop
 | .none,r=>r=.none
 | .bT b,r=>r=.bT b
 | .bA,.none=>True
 | .bA,.bA=>True
 | .bA,.bT _=>False
 | .bA,.tok f _ _=>1≤f
 | .tok _ _ _,.none=>True
 | .tok _ _ _,.bA=>False
 | .tok _ _ _,.bT _=>False
 | .tok f b c,.tok f' b' c'=>f≤f'∧(f'=f→b'=b∧c'=c)
 | .bA,.a7 _=>False
 | .tok _ _ _,.a7 _=>False
 | .a7 _,.none=>True
 | .a7 _,.bA=>False
 | .a7 _,.bT _=>False
 | .a7 _,.tok _ _ _=>False
 | .a7 ts,.a7 T2=>rr ts T2
theorem ca.refl (r:RO):ca r r:=by cases r <;> simp [ca,rr.refl]
theorem ca.trans {a b c:RO} (h:ca a b) (k:ca b c):ca a c:=by
 cases a with
 | none=>simp only [ca] at h; subst h; exact k
 | bT x=>simp only [ca] at h; subst h; exact k
 | bA=>
  cases b with
  | none=>simp only [ca] at k; subst k; trivial
  | bA=>exact k
  | bT z=>exact h.elim
  | tok f' x' y'=>
   cases c with
   | none=>trivial
   | bA=>exact k.elim
   | bT z=>exact k.elim
   | a7 _=>exact k.elim
   | tok f'' x'' y''=>simp only [ca] at *; omega
  | a7 _=>exact h.elim
 | tok f x y=>
  cases b with
  | none=>simp only [ca] at k; subst k; trivial
  | bA=>exact h.elim
  | bT z=>exact h.elim
  | tok f' x' y'=>
   cases c with
   | none=>trivial
   | bA=>exact k.elim
   | bT z=>exact k.elim
   | tok f'' x'' y''=>
    simp only [ca] at *
    refine ⟨Nat.le_trans h.1 k.1,fun e=>?_⟩
    obtain ⟨h1,h2⟩:=h; obtain ⟨k1,k2⟩:=k
    have e1:f'=f:=by omega
    have e2:f''=f':=by omega
    exact ⟨(k2 e2).1.trans (h2 e1).1,(k2 e2).2.trans (h2 e1).2⟩
   | a7 _=>exact k.elim
  | a7 _=>exact h.elim
 | a7 ts=>
  cases b with
  | none=>simp only [ca] at k; subst k; trivial
  | bA=>exact h.elim
  | bT z=>exact h.elim
  | tok f' x' y'=>exact h.elim
  | a7 T2=>
   cases c with
   | none=>trivial
   | bA=>exact k.elim
   | bT z=>exact k.elim
   | tok f' x' y'=>exact k.elim
   | a7 ts''=>exact rr.trans h k
def qb (r r':Loop):Prop:=r'.tmps=r.tmps∧r'.params=r.params∧r'.assign=r.assign∧r'.body=r.body∧r'.defers=r.defers
def fG (w w':World):Prop:=∀ (b:Nat) (r:Loop),w.heap[b]?=some (Obj.loop r)→∃ r',w'.heap[b]?=some (Obj.loop r')∧qb r r'
theorem fG.refl (w:World):fG w w:=fun _ r h=>⟨r,h,rfl,rfl,rfl,rfl,rfl⟩
theorem fG.trans {w w1 w2:World} (h:fG w w1) (k:fG w1 w2):fG w w2:=fun b r hb=>
 let ⟨_,h1,h2,h3,h4,h5,h6⟩:=h b r hb
 let ⟨r2,k1,k2,k3,k4,k5,k6⟩:=k b _ h1
 ⟨r2,k1,k2.trans h2,k3.trans h3,k4.trans h4,k5.trans h5,k6.trans h6⟩
theorem fG.old {w w':World} (h:∀ b,b < w.heap.size→w'.heap[b]?=w.heap[b]?):fG w w':=fun b r hb=>
 ⟨r,(h b (by
  rcases Nat.lt_or_ge b w.heap.size with bP | lM
  ·exact bP
  ·rw [Array.getElem?_eq_none lM] at hb; cases hb)).trans hb,rfl,rfl,rfl,rfl,rfl⟩
structure Ext (R:ak) (w:World) (R':ak) (w':World):Prop where
 I:∀ b o,R.I b o→R'.I b o
 cell:∀ b o,R.I b o→w'.cell? ⟨b,o,none⟩=w.cell? ⟨b,o,none⟩
 obj:∀ id ro,nth R.obj id=some ro→∃ kR,nth R'.obj id=some kR∧ca ro kR
 lp:fG w w'
theorem Ext.refl (R:ak) (w:World):Ext R w R w:=⟨fun _ _ h=>h,fun _ _ _=>rfl,fun _ ro h=>⟨ro,h,ca.refl ro⟩,fG.refl w⟩
theorem Ext.trans {R R' Lj:ak} {w w' Pz:World} (h:Ext R w R' w') (k:Ext R' w' Lj Pz):Ext R w Lj Pz:=
 ⟨fun b o hi=>k.I b o (h.I b o hi),fun b o hi=>(k.cell b o (h.I b o hi)).trans (h.cell b o hi),fun id ro hr=>
  let ⟨_,h1,h2⟩:=h.obj id ro hr
  let ⟨r2,h3,h4⟩:=k.obj id _ h1
  ⟨r2,h3,h2.trans h4⟩,h.lp.trans k.lp⟩
theorem Ext.bT {R R':ak} {w w':World} (h:Ext R w R' w') {id b:Nat} (hb:nth R.obj id=some (.bT b)):nth R'.obj id=some (.bT b):=by
 obtain ⟨r,h1,h2⟩:=h.obj id _ hb
 simp only [ca] at h2
 subst h2
 exact h1
theorem yR.mono {R R':ak} {w w':World} (e:Ext R w R' w') {k:LK} {b o len cap:Nat} (h:yR R k b o len cap):yR R' k b o len cap:=by
 cases k with
 | nil=>exact h
 | full=>exact h
 | ka=>trivial
 | own id=>
  obtain ⟨ro,h1,h2⟩:=h
  obtain ⟨kR,h3,h4⟩:=e.obj id ro h1
  refine ⟨kR,h3,?_⟩
  cases ro with
  | none=>simp only [ca] at h4; subst h4; trivial
  | bA=>exact h2.elim
  | bT x=>exact h2.elim
  | tok f x y=>
   cases kR with
   | none=>trivial
   | bA=>exact h4.elim
   | bT z=>exact h4.elim
   | tok f' x' y'=>
    simp only [ca,Py] at *
    refine ⟨by omega,fun e=>?_⟩
    have e1:f'=f:=by omega
    have h5:=h2.2 (by omega)
    have h6:=h4.2 e1
    exact ⟨h5.1.trans h6.1.symm,h5.2.1,h5.2.2.trans h6.2.symm⟩
   | a7 _=>exact h4.elim
  | a7 _=>exact h2.elim
 | a7 id j=>
  obtain ⟨ro,h1,h2⟩:=h
  obtain ⟨kR,h3,h4⟩:=e.obj id ro h1
  refine ⟨kR,h3,?_⟩
  cases ro with
  | none=>simp only [ca] at h4; subst h4; trivial
  | bA=>exact h2.elim
  | bT x=>exact h2.elim
  | tok _ _ _=>exact h2.elim
  | a7 ts=>
   cases kR with
   | none=>trivial
   | bA=>exact h4.elim
   | bT z=>exact h4.elim
   | tok _ _ _=>exact h4.elim
   | a7 T2=>
    obtain ⟨t,k1,k2⟩:=h2
    obtain ⟨t',k3,k4⟩:=h4 j t k1
    refine ⟨t',k3,?_⟩
    cases t with
    | bA=>exact k2.elim
    | full f=>
     cases t' with
     | bA=>exact k4.elim
     | full f'=>simp only [kE,Li] at *; subst k4; exact k2
     | tok f' x' y'=>simp only [kE,Li] at *; exact ⟨by omega,fun e=>by omega⟩
    | tok f x y=>
     cases t' with
     | bA=>exact k4.elim
     | full f'=>exact k4.elim
     | tok f' x' y'=>
      simp only [kE,Li] at *
      refine ⟨by omega,fun e=>?_⟩
      have e1:f'=f:=by omega
      have h5:=k2.2 (by omega)
      have h6:=k4.2 e1
      exact ⟨h5.1.trans h6.1.symm,h5.2.1,h5.2.2.trans h6.2.symm⟩
theorem lK.mono {ro kR:RO} (h:lK ro) (e:ca ro kR):lK kR:=by
 cases ro with
 | none=>simp only [ca] at e; subst e; trivial
 | bA=>cases kR <;> first | trivial | exact e.elim | exact e
 | bT _=>exact h.elim
 | tok f x y=>
  cases kR with
  | none=>trivial
  | bA=>exact e.elim
  | bT z=>exact e.elim
  | tok f' x' y'=>simp only [ca,lK] at *; omega
  | a7 _=>exact e.elim
 | a7 _=>exact h.elim
theorem rq.mono {ro kR:RO} (h:rq ro) (e:ca ro kR):rq kR:=by
 cases ro with
 | none=>simp only [ca] at e; subst e; trivial
 | bA=>exact h.elim
 | bT _=>exact h.elim
 | tok _ _ _=>exact h.elim
 | a7 ts=>
  cases kR with
  | none=>trivial
  | bA=>exact e.elim
  | bT z=>exact e.elim
  | tok _ _ _=>exact e.elim
  | a7 T2=>trivial
theorem FC.mono {b o f off sz cap:Nat} {ro kR:RO} (h:FC b o f off sz cap ro) (e:ca ro kR):FC b o f off sz cap kR:=by
 cases ro with
 | none=>simp only [ca] at e; subst e; trivial
 | bA=>exact h.elim
 | bT _=>exact h.elim
 | tok f1 x y=>
  cases kR with
  | none=>trivial
  | bA=>exact e.elim
  | bT z=>exact e.elim
  | tok f' x' y'=>
   simp only [ca,FC] at *
   refine ⟨by omega,fun k=>?_⟩
   obtain ⟨e1,e2⟩:=e.2 (by omega)
   obtain ⟨h1,h2,h3⟩:=h.2 (by omega)
   exact ⟨h1.trans e1.symm,h2.trans e2.symm,h3⟩
  | a7 _=>exact e.elim
 | a7 _=>exact h.elim
theorem Hg.mono {b o f i off sz:Nat} {ro kR:RO} (h:Hg b o f i off sz ro) (e:ca ro kR):Hg b o f i off sz kR:=by
 cases ro with
 | none=>simp only [ca] at e; subst e; trivial
 | bA=>exact h.elim
 | bT _=>exact h.elim
 | tok f1 x y=>
  cases kR with
  | none=>trivial
  | bA=>exact e.elim
  | bT z=>exact e.elim
  | tok f' x' y'=>
   simp only [ca,Hg] at *
   refine ⟨by omega,fun k=>?_⟩
   obtain ⟨e1,e2⟩:=e.2 (by omega)
   obtain ⟨h1,h2⟩:=h.2 (by omega)
   exact ⟨h1.trans e1.symm,h2⟩
  | a7 _=>exact e.elim
 | a7 _=>exact h.elim
mutual
theorem Rel.mono {R R':ak} {w w':World} (e:Ext R w R' w'):∀ {a:AV} {c:Value},Rel R w a c→Rel R' w' a c
 | _,_,.bool b=>.bool b
 | _,_,.int k n=>.int k n
 | _,_,.str l=>.str l
 | _,_,.agg h h1=>.agg (h.mono e) h1
 | _,_,.bg h=>.bg (h.mono e)
 | _,_,.gD=>.gD
 | _,_,.ptr h=>.ptr (e.bT h)
 | _,_,.ep h=>.ep (h.mono e)
 | _,_,.jc=>.jc
 | _,_,.gW=>.gW
 | _,_,.lL=>.lL
 | _,_,.kY h ho=>let ⟨_,h3,h4⟩:=e.obj _ _ h; .kY h3 (ho.mono h4)
 | _,_,.kD h ho=>let ⟨_,h3,h4⟩:=e.obj _ _ h; .kD h3 (ho.mono h4)
 | _,_,.list h hl hc hk=>.list (h.mono e) hl hc (hk.mono e)
 | _,_,.ja h hc=>.ja (e.bT h) hc
 | _,_,.iq h ho=>let ⟨_,h3,h4⟩:=e.obj _ _ h; .iq h3 (ho.mono h4)
 | _,_,.du h ho hc=>let ⟨_,h3,h4⟩:=e.obj _ _ h; .du h3 (ho.mono h4) hc
 | _,_,.gp h ho=>let ⟨_,h3,h4⟩:=e.obj _ _ h; .gp h3 (ho.mono h4)
 | _,_,.ju=>.ju
 | _,_,.map h=>.map (e.bT h)
 | _,_,.cb=>.cb
 | _,_,.fn h h'=>.fn (h.mono e) (h'.mono e)
 | _,_,.yield h=>.yield (e.bT h)
 | _,_,.mC=>.mC
 | _,_,.iface h=>.iface (h.mono e)
theorem aG.mono {R R':ak} {w w':World} (e:Ext R w R' w'):∀ {l:List AV} {cs:List Value},aG R w l cs→aG R' w' l cs
 | _,_,.nil=>.nil
 | _,_,.cons h t=>.cons (h.mono e) (t.mono e)
theorem fk.mono {R R':ak} {w w':World} (e:Ext R w R' w'):∀ {b o sz:Nat} {l:List AV},fk R w b o sz l→fk R' w' b o sz l
 | _,_,_,_,.nil=>.nil
 | _,_,_,_,.cons hl ht hk h t=>.cons hl ht hk (h.mono e) (t.mono e)
theorem dp.mono {R R':ak} {w w':World} (e:Ext R w R' w'):∀ {b o:Nat} {l:List AV},dp R w b o l→dp R' w' b o l
 | _,_,_,.nil=>.nil
 | _,_,_,.cons hc h1 hi h t=>.cons ((e.cell _ _ hi).trans hc) h1 (e.I _ _ hi) (h.mono e) (t.mono e)
end
end Go.Am
namespace Go.Am
open Go
section lists
variable {α:Type}
theorem aX (l:List α) (n:Nat):nth l n=l[n]?:=by
 induction l generalizing n with
 | nil=>simp [nth]
 | cons a l ih=>cases n <;> simp [nth,ih]
theorem fm (l:List α) (n:Nat) (x:α):ay l n x=l.set n x:=by
 induction l generalizing n with
 | nil=>simp [ay]
 | cons a l ih=>cases n <;> simp [ay,ih]
theorem bH {l:List α} {n:Nat} {x:α} (h:nth l n=some x):n < l.length:=by
 rw [aX] at h
 exact (List.getElem?_eq_some_iff.1 h).1
theorem aD {l:List α} {n:Nat} {x y:α} (h:nth l n=some y):nth (ay l n x) n=some x:=by
 have:=bH h
 rw [aX,fm,List.getElem?_set_self this]
theorem bE {l:List α} {n m:Nat} {x:α} (h:n≠m):nth (ay l n x) m=nth l m:=by
 rw [aX,fm,aX,List.getElem?_set_ne h]
theorem cR {l:List α} {n m:Nat} {x y:α} (h:nth (ay l n x) m=some y):(n=m∧y=x∧m < l.length)∨(n≠m∧nth l m=some y):=by
 by_cases e:n=m
 ·subst e
  have hl:=bH h
  rw [fm,List.length_set] at hl
  rw [aX,fm,List.getElem?_set_self hl] at h
  exact .inl ⟨rfl,(Option.some.inj h).symm,hl⟩
 ·rw [bE e] at h
  exact .inr ⟨e,h⟩
@[simp] theorem gr (l:List α) (n:Nat) (x:α):(ay l n x).length=l.length:=by rw [fm,List.length_set]
theorem eU (l:List α) (x:α):nth (l++[x]) l.length=some x:=by rw [aX]; simp
theorem cS {l:List α} {n:Nat} {y x:α} (h:nth l n=some y):nth (l++[x]) n=some y:=by
 have:=bH h
 rw [aX] at *
 rw [List.getElem?_append_left this]
 exact h
theorem au {l:List α} {n:Nat} {y x:α} (h:nth (l++[x]) n=some y):nth l n=some y∨(n=l.length∧y=x):=by
 rw [aX] at *
 by_cases e:n < l.length
 ·rw [List.getElem?_append_left e] at h; exact .inl h
 ·rw [List.getElem?_append_right (by omega)] at h
  have hl:=(List.getElem?_eq_some_iff.1 h).1
  simp at hl
  have:n - l.length=0:=by omega
  rw [this] at h
  simp at h
  exact .inr ⟨by omega,h.symm⟩
theorem jx:∀ {l:List α} {n:Nat} {x:α},nth l n=some x→ay l n x=l
 | [],_,_,h=>by cases h
 | a :: l,0,x,h=>by cases h; rfl
 | a :: l,n+1,x,h=>by
  show a :: ay l n x=a :: l
  rw [jx (show nth l n=some x from h)]
end lists
def Qx (R:ak) (w:World) (UK:a6→Array Value→Prop) (busy:Bool) (pending:Option Code) (ae:a6) (n:Nat) (params:List Tmp) (assign body:Code) (defers:Nat) (done:Bool) (b:Nat):Prop:=
 ∃ (r:Loop) (db:Nat),w.heap[b]?=some (.loop r)∧r.state=(if done then .done else if busy then .busy else .ready)∧r.pending=pending ∧
  UK ae r.tmps∧r.tmps.size=n∧r.params=⟨params⟩∧r.assign=assign∧r.body=body∧r.defers=db∧nth R.obj defers=some (.bT db)
def oB (R:ak) (w:World) (β:Nat→Nat):SV→Value→Prop
 | .none,_=>True
 | .v a,c=>Rel R w a c
 | .lp k off,c=>c=.pointer (some ⟨β k,off,none⟩)
def mL (R:ak) (w:World) (β:Nat→Nat) (ae:a6) (tmps:Array Value):Prop:=
 ∀ i,lk ae i≠.none→∃ c,tmps[i]?=some c∧oB R w β (lk ae i) c
def Ef:a6→Bool
 | []=>true
 | .put _ (.lp _ _) :: _=>false
 | _ :: l=>Ef l
def cV (R:ak) (w:World):List (AV × AV)→List MapEntry→Prop
 | [],[]=>True
 | (k,v) :: l,e :: es=>Rel R w k e.key∧Rel R w v e.val∧cV R w l es
 | _,_=>False
def xI (R:ak) (w:World) (sz:Nat) (e:TypeId) (f:Nat):TR→Prop
 | .bA=>f=0
 | .full f'=>f'=f
 | .tok f' b c=>f'=f∧∃ cur,w.heap[b]?=some (.cells cur e (0,0))∧f≤c∧c≤maxLen∧cur.size=c * sz∧∀ o,f * sz≤o→¬ R.I b o
def UL (ts:List TR):Prop:=∀ i j f b c f' c',nth ts i=some (.tok f b c)→nth ts j=some (.tok f' b c')→i=j
def uk (R:ak) (w:World) (sz:Nat) (e:TypeId) (fs:List Nat) (ts:List TR):Prop:=
 ts.length=fs.length∧UL ts∧∀ j f t,nth fs j=some f→nth ts j=some t→xI R w sz e f t
def iR (aw:Array MapEntry) (clock:Nat):Prop:=clock=aw.size∧∀ (i:Nat) (e:MapEntry),aw.toList[i]?=some e→e.born=i
def UM (R:ak) (w:World) (pj n:Nat) (left:List Nat) (cur:Option Nat) (b:Nat):Prop:=
 ∃ bm seen c0,nth R.obj pj=some (.bT bm)∧w.heap[b]?=some (.mapIter (some bm) n seen c0)∧(∀ i,i < n→(i∈left↔seen.contains i=false))∧(∀ i∈left,i < n)∧left.Nodup∧n≤c0∧∀ i,cur=some i→seen.back?=some i∧c0=n
def fM (R:ak) (w:World):GO→RO→Prop
 | .dead,.none=>True
 | .dead,.bA=>True
 | .dead,.bT b=>b < w.heap.size
 | .dead,.tok _ b _=>b < w.heap.size
 | .dead,.a7 ts=>∀ j f b c,nth ts j=some (.tok f b c)→b < w.heap.size
 | .a7 fs sz e,.a7 ts=>uk R w sz e fs ts
 | .my pj n left cur _,.bT b=>UM R w pj n left cur b
 | .tok f _ _,.bA=>f=0
 | .row cs el,.bT b=>∃ vs,w.heap[b]?=some (.cells ⟨vs⟩ el (0,0))∧aG R w cs vs∧(∀ v∈vs,v.oneCell'=true)∧∀ o,¬ R.I b o
 | .tok f sz e,.tok f' b c=>f'=f∧∃ cur,w.heap[b]?=some (.cells cur e (0,0))∧f≤c∧c≤maxLen∧cur.size=c * sz∧∀ o,f * sz≤o→¬ R.I b o
 | .cO es _ _,.bA=>es=[]
 | .cO es sz e,.tok f b c=>f=es.length∧de sz es∧∃ cur vs,w.heap[b]?=some (.cells cur e (0,0))∧f≤c∧c≤maxLen∧cur.size=c * sz∧(∀ o,¬ R.I b o)∧aG R w (ar es) vs∧(∀ v∈vs,v.oneCell'=true)∧cur.toList.take (f * sz)=vs
 | .map es,.bT b=>∃ aw clock,w.heap[b]?=some (.map aw clock)∧cV R w es aw.toList∧iR aw clock
 | .fB l pos,.bT b=>w.heap[b]?=some (.stringIter ⟨⟨l⟩⟩ pos)
 | .loop busy pending _ ae n params assign body defers done,.bT b=>Qx R w (mL R w (fun _=>0)) busy pending ae n params assign body defers done b∧Ef ae=true
 | .defers o,.bT b=>w.heap[b]?=some (.deferred (if o then some [] else none))
 | _,_=>False
def iS (E:Env) (R:ak) (w:World) (g:Nat) (cs:List AV):Prop:=
 dp R w g 0 cs∧(E.gx g=true→R.I g cs.length∧w.cell? ⟨g,cs.length,none⟩=none)
theorem iS.mono {E:Env} {R R':ak} {w w':World} {g:Nat} {cs:List AV} (h:iS E R w g cs) (e:Ext R w R' w'):iS E R' w' g cs:=
 ⟨h.1.mono e,fun hx=>⟨e.I _ _ (h.2 hx).1,(e.cell _ _ (h.2 hx).1).trans (h.2 hx).2⟩⟩
structure cW (E:Env) (R:ak) (w:World) (G:List GO):Prop where
 len:R.obj.length=G.length
 obj:∀ id go ro,nth G id=some go→nth R.obj id=some ro→fM R w go ro
 inj:∀ i j ri rj b,nth R.obj i=some ri→nth R.obj j=some rj→ri.has b→rj.has b→i=j
 wf:∀ b o,R.I b o→b < w.heap.size
 bY:∀ g cs,E.bY g=some cs→iS E R w g cs
 lo:E.lo≤w.drawn
def Live (R:ak) (b:Nat):Prop:=∃ id ro,nth R.obj id=some ro∧ro.has b
structure Lk (R:ak) (w:World) (β:Nat→Nat) (boxes:cp):Prop where
 box:∀ k cs,dc boxes k=some cs→(∃ vs el,w.heap[β k]?=some (.cells ⟨vs⟩ el (0,0))∧aG R w cs vs∧(∀ v∈vs,v.oneCell'=true))∧(∀ o,¬ R.I (β k) o)∧¬ Live R (β k)
 inj:∀ k k' cs cs',dc boxes k=some cs→dc boxes k'=some cs'→β k=β k'→k=k'
def oC (R:ak):List Nat→List Deferred→Prop
 | [],[]=>True
 | id :: l,d :: ds=>(∃ b,nth R.obj id=some (.bT b)∧d={ target:=.collected b,args:=#[] })∧oC R l ds
 | _,_=>False
structure ba (E:Env) (R:ak) (w:World) (β:Nat→Nat) (s:St) (a:Act):Prop where
 g:cW E R w s.G
 b:Lk R w β s.boxes
 t:mL R w β s.ae a.tmps
 n:a.tmps.size=s.n
 d:oC R s.marks a.defers
def Own (R:ak) (β:Nat→Nat) (boxes:cp) (b:Nat):Prop:=
 Live R b∨∃ k cs,dc boxes k=some cs∧β k=b
structure Step (R:ak) (w:World) (β:Nat→Nat) (bx:cp) (R':ak) (w':World) (β':Nat→Nat) (Hh:cp):Prop where
 ext:Ext R w R' w'
 os:w'.os=w.os
 tape:w'.tape=w.tape
 output:w'.output=w.output
 size:w.heap.size≤w'.heap.size
 bo:∀ b,b < w.heap.size→¬ Own R β bx b→w'.heap[b]?=w.heap[b]?
 own:∀ b,b < w.heap.size→Own R' β' Hh b→Own R β bx b
 im:∀ b o,R'.I b o→b < w.heap.size→¬ Own R β bx b→R.I b o
theorem Step.refl (R:ak) (w:World) (β:Nat→Nat) (bx:cp):Step R w β bx R w β bx:=
 ⟨Ext.refl R w,rfl,rfl,rfl,Nat.le_refl _,fun _ _ _=>rfl,fun _ _ h=>h,fun _ _ h _ _=>h⟩
theorem Step.trans {R R1 R2:ak} {w w1 w2:World} {β β1 β2:Nat→Nat} {x x1 x2:cp}
  (h:Step R w β x R1 w1 β1 x1) (k:Step R1 w1 β1 x1 R2 w2 β2 x2):Step R w β x R2 w2 β2 x2 where
 ext:=h.ext.trans k.ext
 os:=k.os.trans h.os
 tape:=k.tape.trans h.tape
 output:=k.output.trans h.output
 size:=Nat.le_trans h.size k.size
 bo:=fun b hb hn=>(k.bo b (Nat.lt_of_lt_of_le hb h.size) (fun ho=>hn (h.own b hb ho))).trans (h.bo b hb hn)
 own:=fun b hb ho=>h.own b hb (k.own b (Nat.lt_of_lt_of_le hb h.size) ho)
 im:=fun b o hi hb hn=>h.im b o (k.im b o hi (Nat.lt_of_lt_of_le hb h.size) (fun ho=>hn (h.own b hb ho))) hb hn
theorem oB.mono {R R':ak} {w w':World} {β:Nat→Nat} (e:Ext R w R' w') {x:SV} {c:Value} (h:oB R w β x c):oB R' w' β x c:=by
 cases x with
 | none=>trivial
 | v a=>exact Rel.mono e h
 | lp k off=>exact h
theorem qc (n:Nat):Nat.beq n n=true:=Nat.beq_refl n
theorem lN {n m:Nat} (h:n≠m):Nat.beq n m=false:=by
 cases hb:Nat.beq n m with
 | true=>exact absurd (Nat.eq_of_beq_eq_true hb) h
 | false=>rfl
theorem ax (l:a6) (d:Nat) (x:SV):lk (.put d x :: l) d=x:=by simp [lk]
theorem aK {l:a6} {d t:Nat} {x:SV} (h:d≠t):lk (.put d x :: l) t=lk l t:=by simp [lk,lN h]
theorem Eg {l:a6} {d t:Nat}:(lk (.kill d :: l) t=lk l t∧∀ k off,lk l t=.lp k off→k≠d)∨lk (.kill d :: l) t=.none:=by
 simp only [lk]
 cases h:lk l t with
 | none=>exact .inr rfl
 | v a=>exact .inl ⟨rfl,fun _ _ e=>by cases e⟩
 | lp k off=>
  by_cases hk:k=d
  ·subst hk
   exact .inr (by simp)
  ·exact .inl ⟨by simp [lN hk],fun k' eT e=>by cases e; exact hk⟩
theorem Hi (l:cp) (d:Nat) (cs:List AV):dc ((d,cs) :: l) d=some cs:=by simp [dc]
theorem dP {l:cp} {d k:Nat} {cs cs':List AV} (h:dc ((d,cs) :: l) k=some cs'):(d=k∧cs'=cs)∨(d≠k∧dc l k=some cs'):=by
 by_cases e:d=k
 ·subst e
  rw [Hi] at h
  exact .inl ⟨rfl,(Option.some.inj h).symm⟩
 ·simp only [dc,lN e,cond_false] at h
  exact .inr ⟨e,h⟩
theorem Ll {l:cp} (h:l.all (fun p=>aA p.2)=true) {k:Nat} {cs:List AV} (hk:dc l k=some cs):aA cs=true:=by
 induction l with
 | nil=>simp [dc] at hk
 | cons x l ih=>
  obtain ⟨d,c⟩:=x
  simp only [List.all_cons,Bool.and_eq_true] at h
  rcases dP hk with ⟨_,rfl⟩ | ⟨_,hk⟩
  ·exact h.1
  ·exact ih h.2 hk
theorem mL.put {R:ak} {w:World} {β:Nat→Nat} {ae:a6} {a:Act} (h:mL R w β ae a.tmps) {d:Tmp} {x:SV} {c:Value} (hd:d < a.tmps.size) (hx:oB R w β x c) :
  mL R w β (.put d x :: ae) (a.put (some d) c).tmps:=by
 intro i hi
 by_cases e:d=i
 ·subst e
  rw [ax]
  exact ⟨c,by simp [Act.put,hd],hx⟩
 ·rw [aK e] at hi ⊢
  obtain ⟨c',h1,h2⟩:=h i hi
  refine ⟨c',?_,h2⟩
  simp only [Act.put]
  rw [Array.getElem?_setIfInBounds_ne e]
  exact h1
theorem ba.put {E:Env} {R:ak} {w:World} {β:Nat→Nat} {s:St} {a:Act} (h:ba E R w β s a) (dst:Option Tmp) {x:SV} {c:Value} (hx:oB R w β x c) :
  ba E R w β (s.put dst x) (a.put dst c):=by
 cases dst with
 | none=>exact h
 | some d=>
  simp only [St.put]
  cases hb:Nat.blt d s.n with
  | true=>
   have hd:d < a.tmps.size:=by rw [h.n]; exact Nat.le_of_ble_eq_true hb
   exact ⟨h.g,h.b,h.t.put hd hx,by simp [Act.put,h.n],h.d⟩
  | false=>
   have hd:¬ d < a.tmps.size:=by
    rw [h.n]
    intro bP
    have:Nat.blt d s.n=true:=Nat.ble_eq_true_of_le bP
    rw [this] at hb
    cases hb
   have he:a.put (some d) c=a:=by
    simp only [Act.put]
    rw [Array.setIfInBounds_eq_of_size_le (Nat.not_lt.1 hd)]
   rw [he]
   exact h
theorem qd {R:ak} {w:World} {v:Value} {a:AV} (h:pX v=some a):Rel R w a v∧v.oneCell'=true:=by
 unfold pX at h
 split at h <;> cases h
 ·exact ⟨.bool _,rfl⟩
 ·exact ⟨.int _ _,rfl⟩
 ·rename_i s
  exact ⟨.str s.data.toList,rfl⟩
 ·exact ⟨.jc,rfl⟩
 ·exact ⟨.gD,rfl⟩
 ·exact ⟨.ju,rfl⟩
 ·exact ⟨.cb,rfl⟩
 ·exact ⟨.mC,rfl⟩
theorem lO {R:ak} {w:World}:∀ {vs:List Value} {l:List AV},kT vs=some l→aG R w l vs∧∀ v∈vs,v.oneCell'=true
 | [],l,h=>by simp [kT] at h; subst h; exact ⟨.nil,by simp⟩
 | v :: vs,l,h=>by
  unfold kT at h
  split at h
  ·rename_i a r h1 h2
   cases h
   obtain ⟨k1,k2⟩:=qd (R:=R) (w:=w) h1
   obtain ⟨k3,k4⟩:=lO (R:=R) (w:=w) h2
   exact ⟨.cons k1 k3,by simp [k2]; exact k4⟩
  ·cases h
theorem sx {R:ak} {w:World} {v:Value} {a:AV} (h:pY v=some a):Rel R w a v:=by
 unfold pY at h
 split at h
 ·rename_i cs
  split at h
  ·rename_i l hl
   cases h
   obtain ⟨k1,k2⟩:=lO (R:=R) (w:=w) hl
   exact .agg (vs:=cs.toList) k1 k2
  ·cases h
 ·rename_i cs
  split at h
  ·rename_i l hl
   cases h
   obtain ⟨k1,_⟩:=lO (R:=R) (w:=w) hl
   exact .bg (vs:=cs.toList) k1
  ·cases h
 ·exact (qd h).1
theorem aO {E:Env} {R:ak} {w:World} {β:Nat→Nat} {s:St} {a:Act} (h:ba E R w β s a) (x:Operand):oB R w β (bw E s.ae x) (a.eval x):=by
 cases x with
 | tmp t=>
  simp only [bw,Act.eval]
  by_cases hn:lk s.ae t=.none
  ·rw [hn]; trivial
  ·obtain ⟨c,h1,h2⟩:=h.t t hn
   have:a.tmps.getD t undef=c:=by simp [Array.getD_eq_getD_getElem?,h1]
   rw [this]
   exact h2
 | const v=>
  simp only [bw,Act.eval]
  cases hc:pY v with
  | none=>trivial
  | some y=>exact sx hc
 | global g=>
  simp only [bw,Act.eval]
  cases hg:E.bY g with
  | none=>trivial
  | some cs=>exact Rel.ep (h.g.bY g cs hg).1
 | func f=>exact Rel.fn .nil .nil
end Go.Am
